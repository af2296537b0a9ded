import Derived.Test.YtjjapblpmpidcaaXA
set_option linter.unusedVariables false
set_option linter.unusedSimpArgs false
namespace Go.Proofs.Ytjjapblpmpidcaa
open Go.RowKit Num UReg

theorem pow_double (m : M) (n k : Nat) : thenM (powM m (n / 2 ^ (k + 1))) (powM m (n / 2 ^ (k + 1))) = powM m (2 * (n / 2 ^ (k + 1))) := by
  rw [← powM_add]
  congr 1
  omega
theorem pow_bit (n k : Nat) : n / 2 ^ k = 2 * (n / 2 ^ (k + 1)) + n / 2 ^ k % 2 := by
  rw [Nat.pow_succ, ← Nat.div_div_eq_div_mul]
  omega
/-- The bits of a number in a block. -/
def BitsAt (w : World) (g n : Nat) : Prop := ∀ j, j < 128 → w.cell? ⟨g, j, none⟩ = some (.int .i64 ((n / 2 ^ j % 2 : Nat) : Int))
theorem BitsAt.ext {w w' : World} {g n : Nat} (h : BitsAt w g n) (x : Ext w w') : BitsAt w' g n := fun j hj => x.cell (h j hj)
theorem BitsAt.other {w : World} {g n b : Nat} (h : BitsAt w g n) (hb : b ≠ g) (o : Nat) (u : Value) : BitsAt (w.setCell ⟨b, o, none⟩ u) g n := fun j hj => by
  rw [World.cell?_setCell_other (h := by intro e; injection e with e1 _ _; exact hb e1), h j hj]
abbrev mapCells (m : M) : List Value := [.int .u64 (hi m.1), .int .u64 (lo m.1), .int .u64 (hi m.2), .int .u64 (lo m.2)]

set_option maxHeartbeats 4000000 in
theorem rPower (a c n x y : V) (h : powM (a, c) n.toNat = (x, y)) (w : World) : Calls Try.prog 38 #[.agg #[.int .u64 (hi a), .int .u64 (lo a), .int .u64 (hi c), .int .u64 (lo c)], .agg #[.int .u64 (hi n), .int .u64 (lo n)]] w fun e w' =>
    e = .returned (.agg #[.int .u64 (hi x), .int .u64 (lo x), .int .u64 (hi y), .int .u64 (lo y)]) ∧ Ext w w' := by
  have HXY := Lib.hid h; clear h
  obtain ⟨L, hL⟩ : ∃ L, blen n.toNat = L := ⟨_, rfl⟩
  have hL2 : L ≤ 128 := by rw [← hL]; exact blen_le n.isLt
  have HL := Lib.hid hL; clear hL
  have HLe := Lib.hid (show ∀ w, Calls Try.prog 74 #[.agg #[.int .u64 (hi n), .int .u64 (lo n)]] w fun e w' => e = .returned (.int .i64 (L : Nat)) ∧ Ext w w' by
    intro w
    have := rLen n w
    rwa [HL.out] at this)
  go_enter Try.func38, Try.ntmps38
  go_wp2_with fail
  refine (rList _ _).mono ?_
  rintro e w1 ⟨v, rfl, hown, hx⟩
  obtain ⟨g, cap, rfl, hg, hg2, hc⟩ := own_list hown
  have HC := Lib.hid hc
  clear hc hown
  have hc_w1 := (ext_cell hx).1
  have hf_w1 := (ext_cell hx).2
  have HX_w1 := Lib.hid hx
  have y_w1 := hx.size
  try simp at y_w1
  have z_w1_w_0 : w.heap.size < w1.heap.size := by omega
  have z_w1_w_1 : w.heap.size + 1 < w1.heap.size := by omega
  have z_w1_w_2 : w.heap.size + 2 < w1.heap.size := by omega
  have z_w1_w_3 : w.heap.size + 3 < w1.heap.size := by omega
  clear hx
  go_wp2_with fail
  refine (HLe.out _).mono ?_
  rintro e w2 ⟨rfl, hx⟩
  have hc_w2 := (ext_cell hx).1
  have hf_w2 := (ext_cell hx).2
  have HX_w2 := Lib.hid hx
  have y_w2 := hx.size
  try simp at y_w2
  have z_w2_w_0 : w.heap.size < w2.heap.size := by omega
  have z_w2_w_1 : w.heap.size + 1 < w2.heap.size := by omega
  have z_w2_w_2 : w.heap.size + 2 < w2.heap.size := by omega
  have z_w2_w_3 : w.heap.size + 3 < w2.heap.size := by omega
  clear hx
  simp at hg
  go_wp2_with fail
  go_loopw [7] (fun j wr => ∃ k : Nat, k ≤ L ∧ j = .int .i64 ((k : Int) - 1) ∧ Ext w wr ∧ g < wr.heap.size ∧ w.heap.size + 4 ≤ wr.heap.size ∧ Cells wr w.heap.size [.int .u64 (hi a), .int .u64 (lo a), .int .u64 (hi c), .int .u64 (lo c)]
      ∧ Cells wr (w.heap.size + 1 + 1 + 1) (mapCells (powM (a, c) (n.toNat / 2 ^ k))) ∧ Cells wr (w.heap.size + 1 + 1) [.int .u64 0, .int .u64 0, .int .u64 0, .int .u64 0] ∧ BitsAt wr g n.toNat)
    (fun j _ => (intOf j + 1).toNat)
  case atStart =>
    have e0 : powM (a, c) (n.toNat / 2 ^ L) = (1#128, 0#128) := by
      have h1 := blen_lt n.toNat
      rw [HL.out] at h1
      rw [Nat.div_eq_of_lt h1]
      rfl
    refine ⟨L, by omega, rfl, ?_, by omega, by omega, ?_, ?_, ?_, ?_⟩
    · repeat (first | with_reducible exact Ext.refl _ | with_reducible refine Ext.alloc ?_ _ | (with_reducible refine Ext.setCell ?_ (by simp <;> omega) _) | with_reducible refine Ext.drew ?_ | with_reducible refine Ext.trans ?_ HX_w2.out | with_reducible refine Ext.trans ?_ HX_w1.out)
    · exact Cells.mk4 (by go_simp <;> rfl) (by go_simp <;> rfl) (by go_simp <;> rfl) (by go_simp <;> rfl) (by go_simp) (by go_simp) (by go_simp) (by go_simp)
    · rw [e0, show mapCells (1#128, 0#128) = [.int .u64 0, .int .u64 1, .int .u64 0, .int .u64 0] from by simp only [mapCells, hi_zero, lo_zero, show hi (1#128) = 0 from by decide +kernel, show lo (1#128) = 1 from by decide +kernel]]
      exact Cells.mk4 (by go_simp <;> rfl) (by go_simp <;> rfl) (by go_simp <;> rfl) (by go_simp <;> rfl) (by go_simp) (by go_simp) (by go_simp) (by go_simp)
    · exact Cells.mk4 (by go_simp <;> rfl) (by go_simp <;> rfl) (by go_simp <;> rfl) (by go_simp <;> rfl) (by go_simp) (by go_simp) (by go_simp) (by go_simp)
    · exact BitsAt.ext HC.out HX_w2.out
  case round =>
    obtain ⟨k, hk, rfl, HX, z1, z2, hs, ho, hr, hb⟩ := hrel
    have HX_r := Lib.hid HX; clear HX
    clear hc_w1 hf_w1 HX_w1 hc_w2 hf_w2 HX_w2 HC
    have za : w.heap.size < wr.heap.size := by omega
    have zr : w.heap.size + 1 + 1 < wr.heap.size := by omega
    have zo : w.heap.size + 1 + 1 + 1 < wr.heap.size := by omega
    by_cases hk0 : k = 0
    · subst hk0
      rw [show n.toNat / 2 ^ 0 = n.toNat by simp, HXY.out] at ho
      obtain ⟨o0, o1, o2, o3, of0, of1, of2, of3⟩ := ho.four
      obtain ⟨r0, r1, r2, r3, rf0, rf1, rf2, rf3⟩ := hr.four
      clear hs ho hr hb
      go_wp2_with fail
      refine bodyPost_ret (v := ?_) ?_ rfl ⟨?_, ?_⟩
      rotate_left
      · simp only [results, Try.results38]
        go_simp
        with_reducible rfl
      · rfl
      · repeat (first | exact HX_r.out | (refine Ext.setCell ?_ (by simp <;> omega) _))
    · obtain ⟨q, rfl⟩ : ∃ q, k = q + 1 := ⟨k - 1, by omega⟩
      have hj : ((q + 1 : Nat) : Int) - 1 = (q : Int) := by omega
      rw [hj]
      clear hj
      have hd := pow_double (a, c) n.toNat q
      have hbit := pow_bit n.toNat q
      obtain ⟨⟨o1, o2⟩, ho'⟩ : ∃ o, powM (a, c) (n.toNat / 2 ^ (q + 1)) = o := ⟨_, rfl⟩
      rw [ho'] at ho hd
      obtain ⟨⟨d1, d2⟩, hd'⟩ : ∃ o, powM (a, c) (2 * (n.toNat / 2 ^ (q + 1))) = o := ⟨_, rfl⟩
      rw [hd'] at hd
      have HD := Lib.hid hd; clear hd
      have HD' := Lib.hid hd'; clear hd'
      have HB := Lib.hid hbit; clear hbit
      clear ho'
      obtain ⟨s0, s1, s2, s3, sf0, sf1, sf2, sf3⟩ := hs.four
      obtain ⟨p0, p1, p2, p3, pf0, pf1, pf2, pf3⟩ := ho.four
      have t1 : decide (0 ≤ (q : Int)) = true := decide_eq_true (by omega)
      go_wp2_with fail
      refine (rThenE HD.out _).mono ?_
      rintro e w3 ⟨rfl, hx⟩
      have hs3 := hs.ext hx
      have ho3 := ho.ext hx
      have hr3 := hr.ext hx
      have hb3 := hb.ext hx
      have X3 := Lib.hid (HX_r.out.trans hx)
      have y3 := hx.size
      clear hx hs ho hr hb s0 s1 s2 s3 sf0 sf1 sf2 sf3 p0 p1 p2 p3 pf0 pf1 pf2 pf3
      obtain ⟨s0, s1, s2, s3, sf0, sf1, sf2, sf3⟩ := hs3.four
      obtain ⟨p0, p1, p2, p3, pf0, pf1, pf2, pf3⟩ := ho3.four
      have hq := hb3 q (by omega)
      have hq' : (q : Int) < 128 := by omega
      have nq : g ≠ w.heap.size + 1 + 1 + 1 := by omega
      by_cases hone : n.toNat / 2 ^ q % 2 = 1
      · replace hq : w3.cell? ⟨g, q, none⟩ = some (.int .i64 1) := by rw [hq, hone]; rfl
        have hn : powM (a, c) (n.toNat / 2 ^ q) = thenM (d1, d2) (a, c) := by
          have := HB.out
          rw [hone] at this
          rw [this, ← HD'.out]
          rfl
        obtain ⟨⟨t1', t2'⟩, ht'⟩ : ∃ o, powM (a, c) (n.toNat / 2 ^ q) = o := ⟨_, rfl⟩
        rw [ht'] at hn
        have HN := Lib.hid hn.symm; clear hn
        have HT := Lib.hid ht'; clear ht'
        clear hone
        go_wp2_with fail
        refine (rThenE HN.out _).mono ?_
        rintro e w4 ⟨rfl, hx⟩
        have hs4 := ((((hs3.other (by omega) 0 (.int .u64 (hi d1))).other (by omega) 1 (.int .u64 (lo d1))).other (by omega) 2 (.int .u64 (hi d2))).other (by omega) 3 (.int .u64 (lo d2))).ext hx
        have ho4 := ((((ho3.set 0 (.int .u64 (hi d1))).set 1 (.int .u64 (lo d1))).set 2 (.int .u64 (hi d2))).set 3 (.int .u64 (lo d2))).ext hx
        have hr4 := ((((hr3.other (by omega) 0 (.int .u64 (hi d1))).other (by omega) 1 (.int .u64 (lo d1))).other (by omega) 2 (.int .u64 (hi d2))).other (by omega) 3 (.int .u64 (lo d2))).ext hx
        have hb4 := ((((hb3.other (by omega) 0 (.int .u64 (hi d1))).other (by omega) 1 (.int .u64 (lo d1))).other (by omega) 2 (.int .u64 (hi d2))).other (by omega) 3 (.int .u64 (lo d2))).ext hx
        have X4 := Lib.hid (((((X3.out.setCell (p := ⟨w.heap.size + 1 + 1 + 1, 0, none⟩) (by simp <;> omega) (.int .u64 (hi d1))).setCell (p := ⟨w.heap.size + 1 + 1 + 1, 1, none⟩) (by simp <;> omega) (.int .u64 (lo d1))).setCell (p := ⟨w.heap.size + 1 + 1 + 1, 2, none⟩) (by simp <;> omega) (.int .u64 (hi d2))).setCell (p := ⟨w.heap.size + 1 + 1 + 1, 3, none⟩) (by simp <;> omega) (.int .u64 (lo d2))).trans hx)
        have y4 := hx.size
        simp at y4
        clear hx hs3 ho3 hr3 hb3 s0 s1 s2 s3 sf0 sf1 sf2 sf3 p0 p1 p2 p3 pf0 pf1 pf2 pf3 X3 hq
        simp only [List.set_cons_zero, List.set_cons_succ] at ho4
        obtain ⟨p0, p1, p2, p3, pf0, pf1, pf2, pf3⟩ := ho4.four
        go_wp2_with fail
        go_roundw
        case rel =>
          refine ⟨q, by omega, by simp, ?_, by simp; omega, by simp; omega, ?_, ?_, ?_, ?_⟩
          · repeat (first | exact X4.out | (refine Ext.setCell ?_ (by simp <;> omega) _))
          · exact (((hs4.other (by omega) _ _).other (by omega) _ _).other (by omega) _ _).other (by omega) _ _
          · rw [HT.out]
            exact (((ho4.set 0 _).set 1 _).set 2 _).set 3 _
          · exact (((hr4.other (by omega) _ _).other (by omega) _ _).other (by omega) _ _).other (by omega) _ _
          · exact (((hb4.other (by omega) _ _).other (by omega) _ _).other (by omega) _ _).other (by omega) _ _
        case measure => simp [intOf] <;> omega
      · replace hq : w3.cell? ⟨g, q, none⟩ = some (.int .i64 0) := by rw [hq, show n.toNat / 2 ^ q % 2 = 0 by omega]; rfl
        have hn : powM (a, c) (n.toNat / 2 ^ q) = (d1, d2) := by
          have := HB.out
          rw [this, show n.toNat / 2 ^ q % 2 = 0 by omega, Nat.add_zero]
          exact HD'.out
        have HN := Lib.hid hn; clear hn
        clear hone
        go_wp2_with fail
        go_roundw
        case rel =>
          refine ⟨q, by omega, by simp, ?_, by simp; omega, by simp; omega, ?_, ?_, ?_, ?_⟩
          · repeat (first | exact X3.out | (refine Ext.setCell ?_ (by simp <;> omega) _))
          · exact (((hs3.other (by omega) _ _).other (by omega) _ _).other (by omega) _ _).other (by omega) _ _
          · rw [HN.out]
            exact (((ho3.set 0 _).set 1 _).set 2 _).set 3 _
          · exact (((hr3.other (by omega) _ _).other (by omega) _ _).other (by omega) _ _).other (by omega) _ _
          · exact (((hb3.other (by omega) _ _).other (by omega) _ _).other (by omega) _ _).other (by omega) _ _
        case measure => simp [intOf] <;> omega
end Go.Proofs.Ytjjapblpmpidcaa
