import Derived.Test.YtjjapblpmpidcaaJA
set_option linter.unusedVariables false
set_option linter.unusedSimpArgs false
namespace Go.Proofs.Ytjjapblpmpidcaa
open Go.RowKit UReg

set_option maxRecDepth 100000 in
set_option maxHeartbeats 2000000 in
theorem qHandles {B tb : Nat} {v : Value} {L : List (Int × Int)} {nx : Int} {w : World} (h : Tab QT B w tb v L nx) (hn : L.length ≤ 16) :
    Calls Try.prog 25 #[.pointer (some ⟨tb, 0, none⟩)] w fun e w' => ∃ u, e = .returned u ∧ OwnI w' w.heap.size u (hnd L) ∧ Ext w w' := by
  obtain ⟨c0, c1, f0, f1⟩ := h.cells.two
  obtain ⟨p, cap, rfl, hcap, _, hcells⟩ := h.own.flat
  have hlt := h.lt
  have HC := Lib.hid hcells
  obtain ⟨n, hl⟩ : ∃ n, L.length = n := ⟨_, rfl⟩
  rw [hl] at c0 hn
  have HL := Lib.hid hl
  clear h hcells hcap hl
  go_enter Try.func25, Try.ntmps25
  go_wp2_with fail
  go_loopw [3, 4] (fun u iv wr => ∃ k : Nat, k ≤ n ∧ iv = .int .i64 k ∧ Ext w wr ∧ OwnI wr w.heap.size u ((hnd L).take k))
    (fun _ iv _ => n - (intOf iv).toNat)
  case atStart => exact ⟨0, by omega, rfl, (Ext.refl _).alloc _, by simpa using OwnI.lit w w.heap.size [] (Nat.le_refl _) (by simp)⟩
  case round =>
    obtain ⟨k, hk, rfl, HX, hown⟩ := hrel
    have HX_r := Lib.hid HX; clear HX
    have hcr := (ext_cell HX_r.out).1
    have hfr := (ext_cell HX_r.out).2
    have z := HX_r.out.size
    have zt : tb < wr.heap.size := by omega
    by_cases hlt' : k < n
    · have hki : (k : Int) < (n : Int) := by omega
      have hkL : k < L.length := by rw [HL.out]; exact hlt'
      obtain ⟨g, rfl, _, hg, d0, d1⟩ := HC.out k hkL
      obtain ⟨⟨a, x⟩, hr⟩ : ∃ t, L[k] = t := ⟨_, rfl⟩
      have hts := hnd_take L k hkL
      rw [hr] at d0 d1 hts
      simp only at d0 d1 hts
      have zg : g < wr.heap.size := by omega
      have HTS := Lib.hid hts
      have hown1 := hown.ext ((Ext.refl wr).alloc (.cells #[.int .i64 a] 3))
      have HLn := Lib.hid (show ((hnd L).take k).length ≤ 16 by rw [List.length_take]; omega)
      clear hts hr hown HC
      go_wp2_with (at_builtin; refine wpList_appendI rfl (.tmp 15) (.tmp 24) rfl _ w.heap.size _ _ ((hnd L).take k) [a] rfl rfl hown1 (reads_one _ _) ?c1 ?c2 ?_)
      case c1 => have := HLn.out; simp only [List.length_cons, List.length_nil]; omega
      case c2 => simp; omega
      intro v' w3 hown3 hx3 hc3 hz3
      have X3 := Lib.hid (hx3 w (Nat.le_refl _) (HX_r.out.alloc _))
      clear hx3 hc3 hown1
      go_wp2_with fail
      go_roundw
      case rel =>
        refine ⟨k + 1, by omega, by simp, X3.out, ?_⟩
        rw [HTS.out]
        exact hown3
      case measure => simp [intOf]; omega
    · have hkn : k = n := by omega
      subst hkn
      have hlen := hnd_length L
      rw [List.take_of_length_le (by rw [hlen, HL.out]; omega)] at hown
      clear hlen
      go_wp2_with fail
      go_ret
      exact ⟨_, rfl, hown, HX_r.out⟩

/-! ### Lists of whole numbers that are the same -/
set_option maxRecDepth 100000 in
set_option maxHeartbeats 1000000 in
theorem rInts (u v : Value) (xs : List Int) (hn : xs.length ≤ 1000) (w : World) (hu : Reads w .i64 u xs) (hv : Reads w .i64 v xs) : Calls Try.prog 23 #[u, v] w fun e w' =>
    e = .returned (.bool true) ∧ Ext w w' := by
  obtain ⟨p, cp, rfl, hp⟩ := hu.flat
  obtain ⟨q, cq, rfl, hq⟩ := hv.flat
  clear hu hv
  have t0 : decide (xs.length = xs.length) = true := by simp
  go_enter Try.func23, Try.ntmps23
  go_wp2_with fail
  go_loopw [5] (fun j wr => ∃ k : Nat, k ≤ xs.length ∧ j = .int .i64 k ∧ Ext w wr)
    (fun j _ => xs.length - (intOf j).toNat)
  case atStart => exact ⟨0, by omega, rfl, by first | exact Ext.refl _ | exact (Ext.refl _).drew⟩
  case round =>
    obtain ⟨k, hk, rfl, HX⟩ := hrel
    by_cases hlt : k < xs.length
    · obtain ⟨g, rfl, hg⟩ := hp k hlt
      obtain ⟨g', rfl, hg'⟩ := hq k hlt
      have c1 := HX.cell hg
      have c2 := HX.cell hg'
      clear hp hq hg hg'
      have z_1 := World.block_lt_of_cell? _ _ c1
      have z_2 := World.block_lt_of_cell? _ _ c2
      simp only at z_1 z_2
      go_wp2_with fail
      try dsimp only
      repeat (first | with_reducible refine wp_region_ext ?_ [(0, 0), (1, 0), (2, 0), (3, 1), (4, 0), (5, 0), (6, 0), (7, 1), (8, 0)] (fun _ => true) ?_ ?_ ?_ ?_ ?_ | go_step)
      · kernel_rfl
      · kernel_rfl
      · kernel_rfl
      · kernel_rfl
      · exact (fun _ _ d _ _ h => by cases d <;> exact h)
      refine run_pure (o := ?_) (v := ?_) (a' := ?_) ?_ ?_ ?_ ?_ ?_
      rotate_left 3
      · (simp only [List.getElem?_toArray, List.getElem?_cons_succ, List.getElem?_cons_zero] <;> rfl)
      · rfl
      · intro w'
        go_simp
        with_reducible rfl
      · simp only [Act.put, List.setIfInBounds_toArray, List.set_cons_zero, List.set_cons_succ]
        rfl
      refine run_pure (o := ?_) (v := ?_) (a' := ?_) ?_ ?_ ?_ ?_ ?_
      rotate_left 3
      · (simp only [List.getElem?_toArray, List.getElem?_cons_succ, List.getElem?_cons_zero] <;> rfl)
      · rfl
      · intro w'
        go_simp
        with_reducible rfl
      · simp only [Act.put, List.setIfInBounds_toArray, List.set_cons_zero, List.set_cons_succ]
        rfl
      refine run_pure (o := ?_) (v := ?_) (a' := ?_) ?_ ?_ ?_ ?_ ?_
      rotate_left 3
      · (simp only [List.getElem?_toArray, List.getElem?_cons_succ, List.getElem?_cons_zero] <;> rfl)
      · rfl
      · intro w'
        go_simp
        with_reducible rfl
      · simp only [Act.put, List.setIfInBounds_toArray, List.set_cons_zero, List.set_cons_succ]
        rfl
      refine run_read (o := ?_) (v := ?_) (a' := ?_) ?_ ?_ ?_ ?_ (Ext.refl _) ?_
      rotate_left 3
      · (simp only [List.getElem?_toArray, List.getElem?_cons_succ, List.getElem?_cons_zero] <;> rfl)
      · rfl
      · intro w' hw'
        obtain ⟨hc, hf⟩ := ext_cell hw'
        clear hw'
        go_simp
        with_reducible rfl
      · simp only [Act.put, List.setIfInBounds_toArray, List.set_cons_zero, List.set_cons_succ]
        rfl
      refine run_pure (o := ?_) (v := ?_) (a' := ?_) ?_ ?_ ?_ ?_ ?_
      rotate_left 3
      · (simp only [List.getElem?_toArray, List.getElem?_cons_succ, List.getElem?_cons_zero] <;> rfl)
      · rfl
      · intro w'
        go_simp
        with_reducible rfl
      · simp only [Act.put, List.setIfInBounds_toArray, List.set_cons_zero, List.set_cons_succ]
        rfl
      refine run_pure (o := ?_) (v := ?_) (a' := ?_) ?_ ?_ ?_ ?_ ?_
      rotate_left 3
      · (simp only [List.getElem?_toArray, List.getElem?_cons_succ, List.getElem?_cons_zero] <;> rfl)
      · rfl
      · intro w'
        go_simp
        with_reducible rfl
      · simp only [Act.put, List.setIfInBounds_toArray, List.set_cons_zero, List.set_cons_succ]
        rfl
      refine run_pure (o := ?_) (v := ?_) (a' := ?_) ?_ ?_ ?_ ?_ ?_
      rotate_left 3
      · (simp only [List.getElem?_toArray, List.getElem?_cons_succ, List.getElem?_cons_zero] <;> rfl)
      · rfl
      · intro w'
        go_simp
        with_reducible rfl
      · simp only [Act.put, List.setIfInBounds_toArray, List.set_cons_zero, List.set_cons_succ]
        rfl
      refine run_read (o := ?_) (v := ?_) (a' := ?_) ?_ ?_ ?_ ?_ (Ext.refl _) ?_
      rotate_left 3
      · (simp only [List.getElem?_toArray, List.getElem?_cons_succ, List.getElem?_cons_zero] <;> rfl)
      · rfl
      · intro w' hw'
        obtain ⟨hc, hf⟩ := ext_cell hw'
        clear hw'
        go_simp
        with_reducible rfl
      · simp only [Act.put, List.setIfInBounds_toArray, List.set_cons_zero, List.set_cons_succ]
        rfl
      refine run_pure (o := ?_) (v := ?_) (a' := ?_) ?_ ?_ ?_ ?_ ?_
      rotate_left 3
      · (simp only [List.getElem?_toArray, List.getElem?_cons_succ, List.getElem?_cons_zero] <;> rfl)
      · rfl
      · intro w'
        go_simp
        with_reducible rfl
      · simp only [Act.put, List.setIfInBounds_toArray, List.set_cons_zero, List.set_cons_succ]
        rfl
      refine run_nil (fun a1 hx => ?_)
      have hc_a1 := (ext_cell hx).1
      have hf_a1 := (ext_cell hx).2
      have HX_a1 := Lib.hid hx
      have y_a1 := hx.size
      try simp at y_a1
      clear hx
      go_wp2_with fail
      go_roundw
      case rel => exact ⟨k + 1, by omega, by simp, HX.trans HX_a1.out⟩
      case measure => simp [intOf]; omega
    · go_wp2_with fail
      go_ret
      exact ⟨rfl, HX⟩
/-! ### do: an act -/
def doE (d h : Int) (L : List (Int × Int)) (nx : Int) : Int := if d = 0 then addE L nx else if d = 2 then layE L nx h else if d = 3 then goE nx h else 0
def doR (d h : Int) (L : List (Int × Int)) (nx : Int) : Int := if d = 0 then addR L nx else if d = 1 then (if has h L then 1 else 0) else 0
def doL (d h x : Int) (L : List (Int × Int)) (nx : Int) : List (Int × Int) := if d = 0 then addL L nx x else if d = 1 then dropL h L else if d = 2 then layL L nx h x else L
def doN (d h : Int) (L : List (Int × Int)) (nx : Int) : Int := if d = 0 then addN L nx else if d = 2 then layN L nx h else if d = 3 then goN nx h else nx
theorem WT.act {L : List (Int × Int)} {nx : Int} (w : WT L nx) (d h x : Int) : WT (doL d h x L nx) (doN d h L nx) := by
  unfold doL doN
  by_cases h0 : d = 0
  · rw [if_pos h0, if_pos h0]; exact w.add x
  · rw [if_neg h0, if_neg h0]
    by_cases h1 : d = 1
    · rw [if_pos h1, if_neg (by omega), if_neg (by omega)]; exact w.drop h
    · rw [if_neg h1]
      by_cases h2 : d = 2
      · rw [if_pos h2, if_pos h2]; exact w.lay h x
      · rw [if_neg h2, if_neg h2]
        by_cases h3 : d = 3
        · rw [if_pos h3]; exact w.goes h
        · rw [if_neg h3]; exact w
set_option maxHeartbeats 4000000 in
theorem tDo {B tb : Nat} {v : Value} {L : List (Int × Int)} {nx : Int} {w : World} (h : Tab RT B w tb v L nx) (hw : WT L nx) (d a x : Int) :
    Calls Try.prog 15 #[.pointer (some ⟨tb, 0, none⟩), .agg #[.int .i64 d, .int .i64 a, .int .u64 x]] w fun e w' => ∃ v', e = .returned (.tuple #[.int .i64 (doR d a L nx), .int .i64 (doE d a L nx)]) ∧ Tab RT B w' tb v' (doL d a x L nx) (doN d a L nx) ∧ Chg tb v v' w w' := by
  have X0 := Lib.hid ((Ext.refl w).alloc (.cells #[.int .i64 d, .int .i64 a, .int .u64 x] 32))
  have h1 := h.ext X0.out
  unfold doE doR doL doN
  by_cases h0 : d = 0
  · simp only [if_pos h0]
    have HC := Lib.hid (tAdd h1 hw x)
    subst h0
    obtain ⟨r, hr⟩ : ∃ r, addR L nx = r := ⟨_, rfl⟩
    obtain ⟨e, he⟩ : ∃ r, addE L nx = r := ⟨_, rfl⟩
    rw [hr, he] at HC ⊢
    clear h h1 hw hr he
    go_enter Try.func15, Try.ntmps15
    go_wp2_with fail
    refine HC.out.mono ?_
    rintro e w1 ⟨v', rfl, hT, hC⟩
    have hT := Lib.hid hT
    have hC := Lib.hid ((Chg.of_ext X0.out).trans hC)
    go_wp2
    go_ret2
    exact ⟨v', rfl, hT.out, hC.out⟩
  · simp only [if_neg h0]
    by_cases e1 : d = 1
    · subst e1
      simp only [if_true]
      have HC := Lib.hid (tDrop h1 hw a)
      have e2 : ¬ (1 : Int) = 2 := by decide
      have e3 : ¬ (1 : Int) = 3 := by decide
      simp only [if_neg e2, if_neg e3]
      cases hh : has a L
      all_goals
        rw [hh] at HC
        simp only [Bool.false_eq_true, if_false, if_true]
        clear h h1 hw hh h0 e2 e3
        go_enter Try.func15, Try.ntmps15
        go_wp2_with fail
        refine HC.out.mono ?_
        rintro e w1 ⟨v', rfl, hT, hC⟩
        have hT := Lib.hid hT
        have hC := Lib.hid ((Chg.of_ext X0.out).trans hC)
        go_wp2
        go_ret2
        exact ⟨v', rfl, hT.out, hC.out⟩
    · simp only [if_neg e1]
      by_cases e2 : d = 2
      · simp only [if_pos e2]
        have HC := Lib.hid (tLay h1 hw a x)
        obtain ⟨e, he⟩ : ∃ r, layE L nx a = r := ⟨_, rfl⟩
        rw [he] at HC ⊢
        subst e2
        clear h h1 hw he h0 e1
        go_enter Try.func15, Try.ntmps15
        go_wp2_with fail
        refine HC.out.mono ?_
        rintro e w1 ⟨v', rfl, hT, hC⟩
        have hT := Lib.hid hT
        have hC := Lib.hid ((Chg.of_ext X0.out).trans hC)
        go_wp2
        go_ret2
        exact ⟨v', rfl, hT.out, hC.out⟩
      · simp only [if_neg e2]
        by_cases e3 : d = 3
        · simp only [if_pos e3]
          have HC := Lib.hid (tGoes h1 a)
          obtain ⟨e, he⟩ : ∃ r, goE nx a = r := ⟨_, rfl⟩
          rw [he] at HC ⊢
          subst e3
          clear h h1 hw he h0 e1 e2
          go_enter Try.func15, Try.ntmps15
          go_wp2_with fail
          refine HC.out.mono ?_
          rintro e w1 ⟨rfl, hT, hC⟩
          have hT := Lib.hid hT
          have hC := Lib.hid ((Chg.of_ext X0.out).trans hC)
          go_wp2
          go_ret2
          exact ⟨v, rfl, hT.out, hC.out⟩
        · simp only [if_neg e3]
          have t0 : decide (d = 0) = false := decide_eq_false h0
          have t1 : decide (d = 1) = false := decide_eq_false e1
          have t2 : decide (d = 2) = false := decide_eq_false e2
          have t3 : decide (d = 3) = false := decide_eq_false e3
          have s0 : (d == 0) = false := t0
          have s1 : (d == 1) = false := t1
          have s2 : (d == 2) = false := t2
          have s3 : (d == 3) = false := t3
          have HT := Lib.hid h1
          clear h h1 hw h0 e1 e2 e3
          go_enter Try.func15, Try.ntmps15
          go_wp2
          go_ret2
          exact ⟨v, rfl, HT.out, .of_ext X0.out⟩
end Go.Proofs.Ytjjapblpmpidcaa
