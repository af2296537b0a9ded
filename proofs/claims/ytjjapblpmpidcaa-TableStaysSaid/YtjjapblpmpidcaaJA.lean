import Derived.Test.YtjjapblpmpidcaaJ9
set_option linter.unusedVariables false
set_option linter.unusedSimpArgs false
namespace Go.Proofs.Ytjjapblpmpidcaa
open Go.RowKit UReg

/-! ### The reference's table: Get, Drop, Handles; Ints -/
theorem val_at (a : Int) : ∀ (L : List (Int × Int)) (k : Nat) (hk : k < L.length), (∀ j (hj : j < k), L[j].1 ≠ a) → L[k].1 = a → val a L = L[k].2 ∧ has a L = true
  | r :: L, 0, _, _, e => by simp at e; simp [val, has, e]
  | r :: L, k + 1, hk, h, e => by
    have h0 : r.1 ≠ a := by simpa using h 0 (by omega)
    have ih := val_at a L k (by simpa using hk) (fun j hj => by simpa using h (j + 1) (by omega)) (by simpa using e)
    rw [val, has, if_neg h0, ih.1, ih.2]
    simp
theorem has_not (a : Int) : ∀ (L : List (Int × Int)), (∀ j (hj : j < L.length), L[j].1 ≠ a) → has a L = false
  | [], _ => rfl
  | r :: L, h => by
    have h0 : r.1 ≠ a := h 0 (by simp)
    rw [has, has_not a L fun j hj => h (j + 1) (by simpa using hj), decide_eq_false h0]
    rfl
theorem has_len (a : Int) : ∀ L : List (Int × Int), has a L = decide ((dropL a L).length < L.length)
  | [] => by simp [has, dropL]
  | r :: L => by
    have ih := has_len a L
    have hl : (dropL a L).length ≤ L.length := List.length_filter_le _ _
    unfold dropL at *
    rw [has, ih]
    by_cases h : r.1 = a
    · rw [List.filter_cons_of_neg (by simp [h]), decide_eq_true h, Bool.true_or]
      symm; rw [decide_eq_true_iff]; simp only [List.length_cons]; omega
    · rw [List.filter_cons_of_pos (by simp [h]), decide_eq_false h, Bool.false_or]
      simp
theorem dropL_take (a : Int) (L : List (Int × Int)) (k : Nat) (hk : k < L.length) : dropL a (L.take (k + 1)) = if L[k].1 = a then dropL a (L.take k) else dropL a (L.take k) ++ [L[k]] := by
  unfold dropL
  rw [List.take_succ_eq_append_getElem hk, List.filter_append]
  by_cases h : L[k].1 = a
  · rw [if_pos h, List.filter_cons_of_neg (by simp [h])]; simp
  · rw [if_neg h, List.filter_cons_of_pos (by simp [h])]; simp

set_option maxRecDepth 100000 in
set_option maxHeartbeats 2000000 in
theorem qGet {B tb : Nat} {v : Value} {L : List (Int × Int)} {nx : Int} {w : World} (h : Tab QT B w tb v L nx) (hn : L.length ≤ 16) (a : Int) :
    Calls Try.prog 21 #[.pointer (some ⟨tb, 0, none⟩), .int .i64 a] w fun e w' => e = .returned (.tuple #[.int .u64 (val a L), .bool (has a L)]) ∧ Ext w w' := by
  obtain ⟨c0, c1, f0, f1⟩ := h.cells.two
  obtain ⟨p, cap, rfl, hcap, _, hcells⟩ := h.own.flat
  have hlt := h.lt
  have HC := Lib.hid hcells
  obtain ⟨n, hl⟩ : ∃ n, L.length = n := ⟨_, rfl⟩
  rw [hl] at c0 hn
  have HL := Lib.hid hl
  obtain ⟨V, hV⟩ : ∃ x, val a L = x := ⟨_, rfl⟩
  obtain ⟨F, hF⟩ : ∃ x, has a L = x := ⟨_, rfl⟩
  rw [hV, hF]
  have HV := Lib.hid hV
  have HFF := Lib.hid hF
  clear h hcells hcap hl hV hF
  go_enter Try.func21, Try.ntmps21
  go_wp2_with fail
  go_loopw [6] (fun iv wr => ∃ k : Nat, k ≤ n ∧ iv = .int .i64 k ∧ wr = w ∧ ∀ j (hj : j < k) (hj' : j < L.length), L[j].1 ≠ a)
    (fun iv _ => n - (intOf iv).toNat)
  case atStart => exact ⟨0, by omega, rfl, rfl, fun j hj => absurd hj (by omega)⟩
  case round =>
    obtain ⟨k, hk, rfl, rfl, hno⟩ := hrel
    have HNO := Lib.hid hno; clear hno
    by_cases hlt' : k < n
    · have hki : (k : Int) < (n : Int) := by omega
      have hkL : k < L.length := by rw [HL.out]; exact hlt'
      obtain ⟨g, rfl, _, hg, d0, d1⟩ := HC.out k hkL
      have hva := val_at a L k hkL (fun j hj => HNO.out j hj (by omega))
      obtain ⟨⟨b, x⟩, hr⟩ : ∃ t, L[k] = t := ⟨_, rfl⟩
      have HR := Lib.hid (show L[k].1 = b by rw [hr])
      rw [hr] at d0 d1 hva
      simp only at d0 d1 hva
      rw [HV.out, HFF.out] at hva
      clear hr
      by_cases hb : b = a
      · obtain ⟨v1, v2⟩ := hva hb
        subst hb v1 v2
        clear HC
        go_wp2
        go_ret2
        exact ⟨rfl, Ext.refl _⟩
      · have t1 : (b == a) = false := by simpa using hb
        have t2 : decide (b = a) = false := decide_eq_false hb
        have HB := Lib.hid hb
        clear hva hb HC
        go_wp2_with fail
        go_roundw
        case rel =>
          refine ⟨k + 1, by omega, by simp, trivial, fun j hj hj' => ?_⟩
          by_cases e : j = k
          · subst e
            rw [HR.out]
            exact HB.out
          · exact HNO.out j (by omega) hj'
        case measure => simp [intOf]; omega
    · obtain rfl : k = n := by omega
      have hf : has a L = false := has_not a L fun j hj => HNO.out j (by rw [← HL.out]; exact hj) hj
      have hv0 := val_none a L hf
      rw [HV.out] at hv0
      rw [HFF.out] at hf
      subst hv0 hf
      clear HC
      go_wp2
      go_ret2
      exact ⟨rfl, Ext.refl _⟩

set_option maxRecDepth 100000 in
set_option maxHeartbeats 4000000 in
theorem qDrop {B tb : Nat} {v : Value} {L : List (Int × Int)} {nx : Int} {w : World} (h : Tab QT B w tb v L nx) (hn : L.length ≤ 16) (a : Int) :
    Calls Try.prog 17 #[.pointer (some ⟨tb, 0, none⟩), .int .i64 a] w fun e w' => ∃ v', e = .returned (.bool (has a L)) ∧ Tab QT B w' tb v' (dropL a L) nx ∧ Chg tb v v' w w' := by
  obtain ⟨c0, c1, f0, f1⟩ := h.cells.two
  obtain ⟨p, cap, rfl, hcap, _, hcells⟩ := h.own.flat
  have hlt := h.lt
  have HT := Lib.hid h
  have HC := Lib.hid hcells
  obtain ⟨n, hl⟩ : ∃ n, L.length = n := ⟨_, rfl⟩
  rw [hl] at c0 hn
  have HL := Lib.hid hl
  obtain ⟨F, hF⟩ : ∃ F, has a L = F := ⟨_, rfl⟩
  rw [hF]
  have HFF := Lib.hid hF
  clear h hcells hcap hl hF
  go_enter Try.func17, Try.ntmps17
  go_wp2_with fail
  go_loopw [5, 6] (fun u iv wr => ∃ k : Nat, k ≤ n ∧ iv = .int .i64 k ∧ Ext w wr ∧ OwnP QT wr w.heap.size u (dropL a (L.take k)))
    (fun _ iv _ => n - (intOf iv).toNat)
  case atStart => exact ⟨0, by omega, rfl, (Ext.refl _).alloc _, by simpa [dropL] using OwnP.lit QT w w.heap.size (Nat.le_refl _)⟩
  case round =>
    obtain ⟨k, hk, rfl, HX, hown⟩ := hrel
    have HX_r := Lib.hid HX; clear HX
    have hcr := (ext_cell HX_r.out).1
    have hfr := (ext_cell HX_r.out).2
    have z := HX_r.out.size
    have zt : tb < wr.heap.size := by omega
    by_cases hlt' : k < n
    · have hki : (k : Int) < (n : Int) := by omega
      have hkL : k < L.length := by rw [HL.out]; exact hlt'
      obtain ⟨g, rfl, _, hg, d0, d1⟩ := HC.out k hkL
      have hdt := dropL_take a L k hkL
      have hlen : (dropL a (L.take k)).length ≤ k := Nat.le_trans (List.length_filter_le _ _) (List.length_take_le _ _)
      obtain ⟨⟨b, x⟩, hr⟩ : ∃ t, L[k] = t := ⟨_, rfl⟩
      rw [hr] at d0 d1 hdt
      simp only at d0 d1 hdt
      have zg : g < wr.heap.size := by omega
      clear hr
      by_cases hb : b = a
      · subst hb
        rw [if_pos rfl] at hdt
        have HD := Lib.hid hdt
        clear HC hdt hlen
        go_wp2_with fail
        go_roundw
        case rel => exact ⟨k + 1, by omega, by simp, HX_r.out, by rw [HD.out]; exact hown⟩
        case measure => simp [intOf]; omega
      · have t1 : (b == a) = false := by simpa using hb
        have t2 : decide (b = a) = false := decide_eq_false hb
        have t3 : (b != a) = true := by simp [hb]
        rw [if_neg hb] at hdt
        have HD := Lib.hid hdt
        have hown1 := hown.ext ((Ext.refl wr).alloc (.cells #[.int .i64 b, .int .u64 x] QT))
        have HLn := Lib.hid hlen
        clear HC hdt hb hlen hown
        go_wp2_with (at_builtin; refine wpList_appendV (size := 2) (bytes := 16) Try.underlying28 qrowInfo (by decide) (by decide) rfl (.tmp 28) (.tmp 36) rfl _ w.heap.size _ (dropL a (L.take k)).length 1 wr.heap.size 1 (rowC (dropL a (L.take k))) [.int .i64 b, .int .u64 x] rfl rfl hown1 rfl (two_new _ _ _ _ _ rfl) (by intro u hu; simp at hu; rcases hu with rfl | rfl <;> rfl) (by have := HLn.out; omega) (by simp; omega) ?_)
        intro v' w1 hown2 hg1
        have X1 := Lib.hid (hg1.ext (HX_r.out.alloc (.cells #[.int .i64 b, .int .u64 x] QT)) hown1.ge)
        have h3 : OwnP QT w1 w.heap.size v' (dropL a (L.take k) ++ [(b, x)]) := by
          unfold OwnP
          rw [rowC_app, List.length_append]
          exact hown2
        clear hown2 hg1 hown1
        go_wp2_with fail
        go_roundw
        case rel => exact ⟨k + 1, by omega, by simp, X1.out, by rw [HD.out]; exact h3⟩
        case measure => simp [intOf]; omega
    · obtain rfl : k = n := by omega
      rw [List.take_of_length_le (by rw [HL.out]; omega)] at hown
      obtain ⟨p2, cap2, hv2, _, _, _⟩ := hown.flat
      have hhl := has_len a L
      rw [HL.out] at hhl
      rw [HFF.out] at hhl
      obtain ⟨m, hm⟩ : ∃ m, (dropL a L).length = m := ⟨_, rfl⟩
      rw [hm] at hv2 hhl
      subst hv2
      have t1 : decide (m < k) = F := hhl.symm
      have t2 : decide ((m : Int) < (k : Int)) = F := by rw [← t1]; exact decide_eq_decide.2 (by omega)
      have HO := Lib.hid hown
      have hne : (Value.slice p2 m cap2).ownBlock ≠ some tb := fun e => by have := hown.ge _ e; omega
      have hC := HT.out.cells.ext HX_r.out
      rw [HL.out] at hC
      have HCC := Lib.hid hC
      have HNE := Lib.hid hne
      clear hown hhl hm HC hC hne hcr hfr c0 c1 f0 f1
      obtain ⟨c0, c1, f0, f1⟩ := HCC.out.two
      go_wp2
      go_ret
      refine ⟨_, rfl, ⟨(HO.out.mono (Nat.le_trans HT.out.base (by omega))).set HNE.out _, HCC.out.set 0 _, HNE.out, HT.out.base⟩, ?_⟩
      have h4 : Chg tb (.slice p L.length cap) (.slice p2 m cap2) w wr := ⟨HX_r.out.os, HX_r.out.tape, HX_r.out.output, HX_r.out.size, fun k hk _ _ => HX_r.out.block k hk, .inr HO.out.ge⟩
      exact h4.set 0 _
end Go.Proofs.Ytjjapblpmpidcaa
