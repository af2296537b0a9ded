import Derived.Test.YtjjapblpmpidcabY5
set_option linter.unusedVariables false
set_option linter.unusedSimpArgs false
namespace Go.Proofs.Ytjjapblpmpidcab
open Go.RowKit Num UReg

/-! ### Take, wherever the bytes lie -/
theorem wTake_len (p : Option Addr) (n cp : Nat) (hn : n ≠ 16) (hm : n ≤ 1000000) (w : World) : Calls Try.prog 34 #[.slice p n cp] w fun e w' =>
    e = .returned (.tuple #[.agg #[.int .u64 0, .int .u64 0], .int .i64 11]) ∧ Ext w w' := by
  have t : decide ((n : Int) = 16) = false := decide_eq_false (by omega)
  have t2 : ((n : Int) == 16) = false := by simp; omega
  have t3 : ((n : Int) != 16) = true := by simp; omega
  have t4 : decide (n = 16) = false := decide_eq_false hn
  go_enter Try.func34, Try.ntmps34
  go_wp2_with fail
  refine bodyPost_ret (v := ?_) ?_ rfl ⟨?_, ?_⟩
  rotate_left
  · simp only [results, Try.results34]
    go_simp
    with_reducible rfl
  · rfl
  · repeat (first | exact Ext.refl _ | refine Ext.alloc ?_ _ | (refine Ext.setCell ?_ (by simp <;> omega) _) | refine Ext.drew ?_)
theorem rTake_len (p : Option Addr) (n cp : Nat) (hn : n ≠ 16) (hm : n ≤ 1000000) (w : World) : Calls Try.prog 35 #[.slice p n cp] w fun e w' =>
    e = .returned (.tuple #[.agg #[.int .u64 0, .int .u64 0], .int .i64 11]) ∧ Ext w w' := by
  have t : decide ((n : Int) = 16) = false := decide_eq_false (by omega)
  have t2 : ((n : Int) == 16) = false := by simp; omega
  have t3 : ((n : Int) != 16) = true := by simp; omega
  have t4 : decide (n = 16) = false := decide_eq_false hn
  go_enter Try.func35, Try.ntmps35
  go_wp2_with fail
  refine bodyPost_ret (v := ?_) ?_ rfl ⟨?_, ?_⟩
  rotate_left
  · simp only [results, Try.results35]
    go_simp
    with_reducible rfl
  · rfl
  · repeat (first | exact Ext.refl _ | refine Ext.alloc ?_ _ | (refine Ext.setCell ?_ (by simp <;> omega) _) | refine Ext.drew ?_)
set_option maxHeartbeats 2000000 in
theorem wTake_gen (ad : Addr) (cp : Nat) (xs : List Int) (w : World) (hg : ∀ j, j < 16 → w.cell? (ad.add j) = some (.int .u8 (xs[j]?.getD 0))) (hn : xs.length = 16) (hb : ∀ x ∈ xs, 0 ≤ x ∧ x ≤ 255) : Calls Try.prog 34 #[.slice (some ad) 16 cp] w fun e w' =>
    e = .returned (.tuple #[.agg #[.int .u64 (hi (takeTo xs 16)), .int .u64 (lo (takeTo xs 16))], .int .i64 0]) ∧ Ext w w' := by
  have hx : ∀ j, j < 16 → 0 ≤ xs[j]?.getD 0 ∧ xs[j]?.getD 0 ≤ 255 := fun j hj => by
    have h1 : j < xs.length := by omega
    simp only [List.getElem?_eq_getElem h1, Option.getD_some]
    exact hb _ (List.getElem_mem h1)
  have HG := Lib.hid hg
  have HB := Lib.hid hx
  clear hg hx hb
  have HN := Lib.hid hn
  clear hn
  go_enter Try.func34, Try.ntmps34
  go_wp2_with fail
  go_loopw [5, 6, 13] (fun v5 v6 j wr => ∃ i : Nat, i ≤ 16 ∧ j = .int .i64 i ∧ Ext w wr ∧ w.heap.size + 1 < wr.heap.size
      ∧ Cells wr w.heap.size [.int .u64 0, .int .u64 0] ∧ Cells wr (w.heap.size + 1) [.int .u64 (hi (takeTo xs i)), .int .u64 (lo (takeTo xs i))])
    (fun _ _ j _ => 16 - (intOf j).toNat)
  case atStart =>
    exact ⟨0, by omega, rfl, (((Ext.refl _).alloc _).alloc _), by simp, Cells.mk2 (by go_simp <;> rfl) (by go_simp <;> rfl) (by go_simp) (by go_simp), Cells.mk2 (by rw [show hi (takeTo xs 0) = 0 from hi_zero]; go_simp <;> rfl) (by rw [show lo (takeTo xs 0) = 0 from lo_zero]; go_simp <;> rfl) (by go_simp) (by go_simp)⟩
  case round =>
    obtain ⟨i, hi', rfl, HX, z1, hs, hc⟩ := hrel
    have z0 : w.heap.size < wr.heap.size := by omega
    by_cases hlt : i < 16
    · have ci := HX.cell (HG.out i hlt)
      obtain ⟨b0, b1⟩ := HB.out i hlt
      have HX_r := Lib.hid HX
      clear HX
      obtain ⟨s0, s1, sf0, sf1⟩ := hs.two
      obtain ⟨c0, c1, cf0, cf1⟩ := hc.two
      obtain ⟨y, hy⟩ : ∃ y, xs[i]?.getD 0 = y := ⟨_, rfl⟩
      rw [hy] at ci b0 b1
      have HY := Lib.hid hy
      clear hy
      have HO : ∀ w, Calls Try.prog 21 #[.int .u64 (IntKind.u64.wrap y)] w fun e w' => e = .returned (.agg #[.int .u64 (hi (of y)), .int .u64 (lo (of y))]) ∧ Ext w w' := by
        intro w
        rw [IntWalk.u64_in _ (by omega)]
        exact wOf _ (by unfold Word; omega) w
      have HO := Lib.hid HO
      have HL : ∀ w, Calls Try.prog 41 #[.agg #[.int .u64 (hi (of y)), .int .u64 (lo (of y))], .int .i64 (IntKind.i64.wrap (8 * (i : Int)))] w fun e w' =>
          e = .returned (.agg #[.int .u64 (hi (shl (of y) (8 * (i : Int)))), .int .u64 (lo (shl (of y) (8 * (i : Int))))]) ∧ Ext w w' := by
        intro w
        rw [IntWalk.i64_in _ (by omega)]
        exact wLeft _ _ w
      have HL := Lib.hid HL
      go_wp2_with fail
      try dsimp only
      repeat (first | with_reducible refine wp_region_ext ?_ [(0, 1), (1, 0), (2, 0), (3, 1), (4, 0), (5, 0), (6, 1), (7, 1), (8, 0), (9, 0), (10, 0), (11, 2)] (fun i => !(i == 11)) ?_ ?_ ?_ ?_ ?_ | go_step)
      · kernel_rfl
      · kernel_rfl
      · kernel_rfl
      · kernel_rfl
      · exact (fun _ _ d _ _ h => by cases d <;> exact h)
      refine run_read (o := ?_) (v := ?_) (a' := ?_) ?_ ?_ ?_ ?_ (Ext.refl _) ?_
      rotate_left 3
      · (simp only [List.getElem?_toArray, List.getElem?_cons_succ, List.getElem?_cons_zero] <;> rfl)
      · rfl
      · intro w' hw'
        obtain ⟨hc, hf⟩ := ext_cell hw'
        clear hw'
        go_simp
        with_reducible rfl
      · simp only [Act.put, List.setIfInBounds_toArray, List.set_cons_zero, List.set_cons_succ]
        rfl
      refine run_pure (o := ?_) (v := ?_) (a' := ?_) ?_ ?_ ?_ ?_ ?_
      rotate_left 3
      · (simp only [List.getElem?_toArray, List.getElem?_cons_succ, List.getElem?_cons_zero] <;> rfl)
      · rfl
      · intro w'
        go_simp
        with_reducible rfl
      · simp only [Act.put, List.setIfInBounds_toArray, List.set_cons_zero, List.set_cons_succ]
        rfl
      refine run_pure (o := ?_) (v := ?_) (a' := ?_) ?_ ?_ ?_ ?_ ?_
      rotate_left 3
      · (simp only [List.getElem?_toArray, List.getElem?_cons_succ, List.getElem?_cons_zero] <;> rfl)
      · rfl
      · intro w'
        go_simp
        with_reducible rfl
      · simp only [Act.put, List.setIfInBounds_toArray, List.set_cons_zero, List.set_cons_succ]
        rfl
      refine run_call (f := 21) (args := ?_) (o := ?_) (v := ?_) (a' := ?_) ?_ ?_ ?_ ?_ ?_ (Ext.refl _) ?_
      rotate_left 4
      · (simp only [List.getElem?_toArray, List.getElem?_cons_succ, List.getElem?_cons_zero] <;> rfl)
      · rfl
      · intro w'
        go_simp
        with_reducible rfl
      · intro w' hw'
        exact (HO.out _)
      · simp only [Act.put, List.setIfInBounds_toArray, List.set_cons_zero, List.set_cons_succ]
        rfl
      refine run_pure (o := ?_) (v := ?_) (a' := ?_) ?_ ?_ ?_ ?_ ?_
      rotate_left 3
      · (simp only [List.getElem?_toArray, List.getElem?_cons_succ, List.getElem?_cons_zero] <;> rfl)
      · rfl
      · intro w'
        go_simp
        with_reducible rfl
      · simp only [Act.put, List.setIfInBounds_toArray, List.set_cons_zero, List.set_cons_succ]
        rfl
      refine run_pure (o := ?_) (v := ?_) (a' := ?_) ?_ ?_ ?_ ?_ ?_
      rotate_left 3
      · (simp only [List.getElem?_toArray, List.getElem?_cons_succ, List.getElem?_cons_zero] <;> rfl)
      · rfl
      · intro w'
        go_simp
        with_reducible rfl
      · simp only [Act.put, List.setIfInBounds_toArray, List.set_cons_zero, List.set_cons_succ]
        rfl
      refine run_call (f := 41) (args := ?_) (o := ?_) (v := ?_) (a' := ?_) ?_ ?_ ?_ ?_ ?_ (Ext.refl _) ?_
      rotate_left 4
      · (simp only [List.getElem?_toArray, List.getElem?_cons_succ, List.getElem?_cons_zero] <;> rfl)
      · rfl
      · intro w'
        go_simp
        with_reducible rfl
      · intro w' hw'
        exact (HL.out _)
      · simp only [Act.put, List.setIfInBounds_toArray, List.set_cons_zero, List.set_cons_succ]
        rfl
      refine run_call (f := 29) (args := ?_) (o := ?_) (v := ?_) (a' := ?_) ?_ ?_ ?_ ?_ ?_ (Ext.refl _) ?_
      rotate_left 4
      · (simp only [List.getElem?_toArray, List.getElem?_cons_succ, List.getElem?_cons_zero] <;> rfl)
      · rfl
      · intro w'
        go_simp
        with_reducible rfl
      · intro w' hw'
        exact (wAdd _ _ _)
      · simp only [Act.put, List.setIfInBounds_toArray, List.set_cons_zero, List.set_cons_succ]
        rfl
      refine run_pure (o := ?_) (v := ?_) (a' := ?_) ?_ ?_ ?_ ?_ ?_
      rotate_left 3
      · (simp only [List.getElem?_toArray, List.getElem?_cons_succ, List.getElem?_cons_zero] <;> rfl)
      · rfl
      · intro w'
        go_simp
        with_reducible rfl
      · simp only [Act.put, List.setIfInBounds_toArray, List.set_cons_zero, List.set_cons_succ]
        rfl
      refine run_pure (o := ?_) (v := ?_) (a' := ?_) ?_ ?_ ?_ ?_ ?_
      rotate_left 3
      · (simp only [List.getElem?_toArray, List.getElem?_cons_succ, List.getElem?_cons_zero] <;> rfl)
      · rfl
      · intro w'
        go_simp
        with_reducible rfl
      · simp only [Act.put, List.setIfInBounds_toArray, List.set_cons_zero, List.set_cons_succ]
        rfl
      refine run_pure (o := ?_) (v := ?_) (a' := ?_) ?_ ?_ ?_ ?_ ?_
      rotate_left 3
      · (simp only [List.getElem?_toArray, List.getElem?_cons_succ, List.getElem?_cons_zero] <;> rfl)
      · rfl
      · intro w'
        go_simp
        with_reducible rfl
      · simp only [Act.put, List.setIfInBounds_toArray, List.set_cons_zero, List.set_cons_succ]
        rfl
      refine run_do (o := ?_) ?_ ?_ (fun a1 hx K hK => ?_)
      rotate_left
      · (simp only [List.getElem?_toArray, List.getElem?_cons_succ, List.getElem?_cons_zero] <;> rfl)
      · rfl
      have hc_a1 := (ext_cell hx).1
      have hf_a1 := (ext_cell hx).2
      have HX_a1 := Lib.hid hx
      have y_a1 := hx.size
      try simp at y_a1
      have z_a1_w_0 : w.heap.size < a1.heap.size := by omega
      have z_a1_w_1 : w.heap.size + 1 < a1.heap.size := by omega
      clear hx
      go_simp
      refine hK _ _ (fun h => absurd h (by decide)) ?_
      clear hK K
      refine run_nil (fun a2 hx => ?_)
      have hc_a2 := (ext_cell hx).1
      have hf_a2 := (ext_cell hx).2
      have HX_a2 := Lib.hid hx
      have y_a2 := hx.size
      try simp at y_a2
      have z_a2_w_0 : w.heap.size < a2.heap.size := by omega
      have z_a2_w_1 : w.heap.size + 1 < a2.heap.size := by omega
      clear hx
      go_wp2_with fail
      go_roundw
      case rel =>
        refine ⟨i + 1, by omega, by simp, ?_, by omega, ?_, ?_⟩
        · repeat (first | exact HX_r.out | (refine Ext.setCell ?_ (by simp) _) | refine Ext.trans ?_ HX_a2.out | refine Ext.trans ?_ HX_a1.out)
        · refine Cells.ext ?_ HX_a2.out
          exact ((hs.ext HX_a1.out).other (by omega) _ _).other (by omega) _ _
        · refine Cells.ext ?_ HX_a2.out
          have h := ((hc.ext HX_a1.out).set 0 (.int .u64 (hi (takeTo xs i + shl (of y) (8 * (i : Int)))))).set 1 (.int .u64 (lo (takeTo xs i + shl (of y) (8 * (i : Int)))))
          rw [show takeTo xs (i + 1) = takeTo xs i + shl (of y) (8 * (i : Int)) from by rw [takeTo, HY.out]]
          exact h
      case measure => simp [intOf]; omega
    · have HX_r := Lib.hid HX
      clear HX
      obtain ⟨s0, s1, sf0, sf1⟩ := hs.two
      obtain ⟨c0, c1, cf0, cf1⟩ := hc.two
      have e : i = 16 := by omega
      subst e
      go_wp2_with fail
      refine bodyPost_ret (v := ?_) ?_ rfl ⟨?_, ?_⟩
      rotate_left
      · simp only [results, Try.results34]
        go_simp
        with_reducible rfl
      · rfl
      · repeat (first | exact HX_r.out | (refine Ext.setCell ?_ (by simp) _))
set_option maxHeartbeats 4000000 in
theorem rTake_gen (ad : Addr) (cp : Nat) (xs : List Int) (w : World) (hg : ∀ j, j < 16 → w.cell? (ad.add j) = some (.int .u8 (xs[j]?.getD 0))) (hn : xs.length = 16) (hb : ∀ x ∈ xs, 0 ≤ x ∧ x ≤ 255) : Calls Try.prog 35 #[.slice (some ad) 16 cp] w fun e w' =>
    e = .returned (.tuple #[.agg #[.int .u64 (hi (takeTo xs 16)), .int .u64 (lo (takeTo xs 16))], .int .i64 0]) ∧ Ext w w' := by
  have hx : ∀ j, j < 16 → 0 ≤ xs[j]?.getD 0 ∧ xs[j]?.getD 0 ≤ 255 := fun j hj => by
    have h1 : j < xs.length := by omega
    simp only [List.getElem?_eq_getElem h1, Option.getD_some]
    exact hb _ (List.getElem_mem h1)
  have HG := Lib.hid hg
  have HB := Lib.hid hx
  have HBB := Lib.hid hb
  clear hg hx hb
  have HN := Lib.hid hn
  clear hn
  go_enter Try.func35, Try.ntmps35
  go_wp2_with fail
  go_loopw [4, 5] (fun l jv wr => ∃ i : Nat, i ≤ 16 ∧ jv = .int .i64 i ∧ Ext w wr ∧ w.heap.size + 1 ≤ wr.heap.size ∧ OwnI wr (w.heap.size + 1) l (bitsN (takeTo xs i).toNat (8 * i)) ∧ Cells wr w.heap.size [.int .u64 0, .int .u64 0])
    (fun _ jv _ => 16 - (intOf jv).toNat)
  case atStart =>
    refine ⟨0, by omega, rfl, ?_, by simp, ?_, ?_⟩
    · repeat (first | exact Ext.refl _ | refine Ext.alloc ?_ _ | (refine Ext.setCell ?_ (by simp <;> omega) _) | refine Ext.drew ?_)
    · have h0 := OwnI.lit (w.alloc (.cells #[.int .u64 0, .int .u64 0] 31)) (w.heap.size + 1) [] (by simp) (by simp)
      simpa [bitsN] using h0
    · exact Cells.mk2 (by go_simp <;> rfl) (by go_simp <;> rfl) (by go_simp) (by go_simp)
  case round =>
    obtain ⟨i, hi', rfl, HX, z1, hown, hs⟩ := hrel
    by_cases hlt : i < 16
    · have ci := HX.cell (HG.out i hlt)
      have hci := HB.out i hlt
      have HX_r := Lib.hid HX; clear HX
      have hlt' : (i : Int) < 16 := by omega
      obtain ⟨y, hy⟩ : ∃ y, xs[i]?.getD 0 = y := ⟨_, rfl⟩
      rw [hy] at ci hci
      obtain ⟨n, rfl⟩ := Int.eq_ofNat_of_zero_le hci.1
      have hn2 : n < 256 := by omega
      have hst := take_step xs HBB.out i hlt n hn2 hy
      have HST := Lib.hid hst; clear hst
      have HBn := Lib.hid (rBits n (by omega))
      have k1 : IntKind.u64.wrap (n : Int) = (n : Int) := IntWalk.u64_in _ (by omega)
      have HO := Lib.hid hown; clear hown
      clear hy hci
      go_wp2_with fail
      refine (HBn.out _).mono ?_
      rintro e w2 ⟨v2, rfl, hown2, hx⟩
      have hL2 := bitsN_length n 64
      obtain ⟨g2, cap, rfl, hg2, hg3, hcap, hcm, hcell⟩ := own_form hown2 (by rw [hL2]; omega)
      have HRT := Lib.hid (reads_take (cap := cap) (n := 8) (by rw [hL2]; omega) hcell)
      rw [bitsN_take n 64 8 (by omega)] at HRT
      rw [hL2] at hcap ⊢
      have hcap' : (64 : Int) ≤ cap := by omega
      have hcap2 : (8 : Int) ≤ cap := by omega
      have hown3 := HO.out.ext hx
      have hs3 := hs.ext hx
      have X3 := Lib.hid (HX_r.out.trans hx)
      have y3 := hx.size
      have HZ := Lib.hid (show w.heap.size + 1 ≤ w2.heap.size by omega)
      have HLL := Lib.hid (show (bitsN (takeTo xs i).toNat (8 * i)).length + (bitsN n 8).length ≤ 100000 by rw [bitsN_length, bitsN_length]; omega)
      clear hx hs hown2 hcell hL2 hg2 hg3 hcm ci
      go_wp2_with (at_builtin; refine wpList_appendI rfl (.tmp 15) (.tmp 22) rfl _ (w.heap.size + 1) _ _ (bitsN (takeTo xs i).toNat (8 * i)) (bitsN n 8) rfl rfl hown3 HRT.out HLL.out HZ.out ?_)
      intro v' w6 hown6 hx6 hc6 hz6
      have X6 := Lib.hid (hx6 w (by omega) X3.out)
      have hs6 := hc6 _ _ (by omega) hs3
      have HO6 := Lib.hid hown6
      clear hx6 hc6 hown6 hown3 hs3
      go_wp2_with fail
      go_roundw
      case rel => exact ⟨i + 1, by omega, by simp, X6.out, by have := HZ.out; omega, by rw [HST.out] at HO6; exact HO6.out, hs6⟩
      case measure => simp [intOf]; omega
    · obtain rfl : i = 16 := by omega
      have HX_r := Lib.hid HX; clear HX
      have HR := Lib.hid fun w' (x : Ext wr w') => rOf u4 _ w' (hown.reads.ext x) (bitsN_bounds _ _) (by rw [bitsN_length]; omega)
      have HSelf := Lib.hid (ofBits_self (takeTo xs 16))
      obtain ⟨r0, r1, rf0, rf1⟩ := hs.two
      clear hown hs
      have zz : w.heap.size < wr.heap.size := by omega
      go_wp2_with fail
      refine (HR.out _ (Ext.refl _)).mono ?_
      rintro e w2 ⟨rfl, hx⟩
      rw [show 8 * 16 = 128 from rfl, HSelf.out]
      have hc_w2 := (ext_cell hx).1
      have hf_w2 := (ext_cell hx).2
      have HX_w2 := Lib.hid hx
      have y_w2 := hx.size
      try simp at y_w2
      have z_w2_w_0 : w.heap.size < w2.heap.size := by omega
      clear hx
      go_wp2
      refine bodyPost_ret (v := ?_) ?_ rfl ⟨?_, ?_⟩
      rotate_left
      · simp only [results, Try.results35]
        go_simp
        with_reducible rfl
      · rfl
      · repeat (first | exact HX_r.out | (refine Ext.setCell ?_ (by simp <;> omega) _) | refine Ext.trans ?_ HX_w2.out)
end Go.Proofs.Ytjjapblpmpidcab
