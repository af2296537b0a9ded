import Derived.Test.YtjjapblpmpidcaaH3
import Derived.Test.YtjjapblpmpidcaaXU
set_option linter.unusedVariables false
set_option linter.unusedSimpArgs false
namespace Go.Proofs.Ytjjapblpmpidcaa
open Go.RowKit Num UReg

/-! ### philox: the closures of a key -/
abbrev bCells (b : Blk) : List Value := [.int .u32 b.1, .int .u32 b.2.1, .int .u32 b.2.2.1, .int .u32 b.2.2.2]
abbrev kCells (k : Ky) : List Value := [.int .u32 k.1, .int .u32 k.2]
set_option maxHeartbeats 1000000 in
theorem pForth {b0 b1 b2 b3 k0 k1 r0 r1 r2 r3 : Int} (hb0 : 0 ≤ b0 ∧ b0 < 4294967296 ∧ 0 ≤ b2 ∧ b2 < 4294967296) (h : rnd (b0, b1, b2, b3) (k0, k1) = (r0, r1, r2, r3)) (w : World) (kb : Nat) (hk : Cells w kb [.int .u32 k0, .int .u32 k1]) :
    Calls Try.prog 96 #[.agg #[.int .u32 b0, .int .u32 b1, .int .u32 b2, .int .u32 b3], .pointer (some ⟨kb, 0, none⟩)] w fun e w' => e = .returned (.agg #[.int .u32 r0, .int .u32 r1, .int .u32 r2, .int .u32 r3]) ∧ Ext w w' := by
  have HR := Lib.hid (pRound hb0 h)
  have hlt := hk.lt
  obtain ⟨q0, q1, qf0, qf1⟩ := hk.two
  have n1 : kb ≠ w.heap.size := by omega
  have n2 : kb ≠ w.heap.size + 1 := by omega
  clear h hb0 hk
  go_enter Try.func96, Try.ntmps96
  go_wp2_with fail
  refine (HR.out _).mono ?_
  rintro e w1 ⟨rfl, hx⟩
  have hc_w1 := (ext_cell hx).1
  have hf_w1 := (ext_cell hx).2
  have HX_w1 := Lib.hid hx
  have y_w1 := hx.size
  try simp at y_w1
  have z_w1_w_0 : w.heap.size < w1.heap.size := by omega
  have z_w1_w_1 : w.heap.size + 1 < w1.heap.size := by omega
  clear hx
  go_wp2
  refine bodyPost_ret (v := ?_) ?_ rfl ⟨?_, ?_⟩
  rotate_left
  · simp only [results, Try.results96]
    go_simp
    with_reducible rfl
  · rfl
  · repeat (first | with_reducible exact Ext.refl _ | with_reducible refine Ext.alloc ?_ _ | (with_reducible refine Ext.setCell ?_ (by simp <;> omega) _) | with_reducible refine Ext.drew ?_ | with_reducible refine Ext.trans ?_ HX_w1.out)

set_option maxHeartbeats 2000000 in
theorem rMix (b : Blk) (k : Ky) (hb : WB b) (hk : WK k) (n : Nat) (hn : n ≤ 100) (r0 r1 r2 r3 : Int) (h : (mixS b k n).1 = (r0, r1, r2, r3)) (w : World) :
    Calls Try.prog 79 #[.agg #[.int .u32 b.1, .int .u32 b.2.1, .int .u32 b.2.2.1, .int .u32 b.2.2.2], .agg #[.int .u32 k.1, .int .u32 k.2], .int .i64 n] w fun e w' => e = .returned (.agg #[.int .u32 r0, .int .u32 r1, .int .u32 r2, .int .u32 r3]) ∧ Ext w w' := by
  have HH := Lib.hid h; clear h
  have HW := Lib.hid (w_mixS hb hk)
  clear hb hk
  obtain ⟨b0, b1, b2, b3⟩ := b
  obtain ⟨k0, k1⟩ := k
  go_enter Try.func79, Try.ntmps79
  go_wp2_with fail
  go_loopw [7] (fun iv wr => ∃ i : Nat, i ≤ n ∧ iv = .int .i64 i ∧ Ext w wr ∧ w.heap.size + 3 ≤ wr.heap.size ∧ Cells wr w.heap.size (bCells (mixS (b0, b1, b2, b3) (k0, k1) i).1) ∧ Cells wr (w.heap.size + 1) (kCells (mixS (b0, b1, b2, b3) (k0, k1) i).2)
      ∧ Cells wr (w.heap.size + 1 + 1) [.int .u32 0, .int .u32 0, .int .u32 0, .int .u32 0])
    (fun iv _ => n - (intOf iv).toNat)
  case atStart =>
    refine ⟨0, by omega, rfl, ?_, by simp, ?_, ?_, ?_⟩
    · repeat (first | with_reducible exact Ext.refl _ | with_reducible refine Ext.alloc ?_ _ | (with_reducible refine Ext.setCell ?_ (by simp <;> omega) _) | with_reducible refine Ext.drew ?_)
    · exact Cells.mk4 (by go_simp <;> rfl) (by go_simp <;> rfl) (by go_simp <;> rfl) (by go_simp <;> rfl) (by go_simp) (by go_simp) (by go_simp) (by go_simp)
    · exact Cells.mk2 (by go_simp <;> rfl) (by go_simp <;> rfl) (by go_simp) (by go_simp)
    · exact Cells.mk4 (by go_simp <;> rfl) (by go_simp <;> rfl) (by go_simp <;> rfl) (by go_simp <;> rfl) (by go_simp) (by go_simp) (by go_simp) (by go_simp)
  case round =>
    obtain ⟨i, hi', rfl, HX, z1, hs, hk, hr⟩ := hrel
    have HX_r := Lib.hid HX; clear HX
    by_cases hlt : i < n
    · have hlt' : (i : Int) < (n : Int) := by omega
      have hw := (HW.out i).1
      have hsucc : mixS (b0, b1, b2, b3) (k0, k1) (i + 1) = (rnd (mixS (b0, b1, b2, b3) (k0, k1) i).1 (mixS (b0, b1, b2, b3) (k0, k1) i).2, nextK (mixS (b0, b1, b2, b3) (k0, k1) i).2) := rfl
      obtain ⟨⟨⟨c0, c1, c2, c3⟩, ⟨l0, l1⟩⟩, hm⟩ : ∃ t, mixS (b0, b1, b2, b3) (k0, k1) i = t := ⟨_, rfl⟩
      obtain ⟨⟨d0, d1, d2, d3⟩, hd⟩ : ∃ t, rnd (c0, c1, c2, c3) (l0, l1) = t := ⟨_, rfl⟩
      obtain ⟨⟨m0, m1⟩, hn'⟩ : ∃ t, nextK (l0, l1) = t := ⟨_, rfl⟩
      rw [hm] at hs hk hw hsucc
      simp only at hsucc
      rw [hd, hn'] at hsucc
      have HR := Lib.hid (rRound ⟨hw.1.1, hw.1.2, hw.2.2.1.1, hw.2.2.1.2⟩ hd)
      have HN := Lib.hid (rNext hn')
      have HS := Lib.hid hsucc
      clear hw hm hd hn' hsucc
      obtain ⟨s0, s1, s2, s3, sf0, sf1, sf2, sf3⟩ := hs.four
      obtain ⟨q0, q1, qf0, qf1⟩ := hk.two
      go_wp2_with fail
      refine (HR.out _).mono ?_
      rintro e w1 ⟨rfl, hx⟩
      have hs1 := ((((hs.ext hx).set 0 (.int .u32 d0)).set 1 (.int .u32 d1)).set 2 (.int .u32 d2)).set 3 (.int .u32 d3)
      have hk1 := ((((hk.ext hx).other (by omega) 0 (.int .u32 d0) (b' := w.heap.size)).other (by omega) 1 (.int .u32 d1) (b' := w.heap.size)).other (by omega) 2 (.int .u32 d2) (b' := w.heap.size)).other (by omega) 3 (.int .u32 d3) (b' := w.heap.size)
      have hr1 := ((((hr.ext hx).other (by omega) 0 (.int .u32 d0) (b' := w.heap.size)).other (by omega) 1 (.int .u32 d1) (b' := w.heap.size)).other (by omega) 2 (.int .u32 d2) (b' := w.heap.size)).other (by omega) 3 (.int .u32 d3) (b' := w.heap.size)
      have x0 := hs.ext hx
      have X1 := Lib.hid (HX_r.out.trans hx)
      have y1 := hx.size
      simp only [List.set_cons_zero, List.set_cons_succ] at hs1
      clear s0 s1 s2 s3 sf0 sf1 sf2 sf3 q0 q1 qf0 qf1 hs hr
      obtain ⟨s0, s1, s2, s3, sf0, sf1, sf2, sf3⟩ := x0.four
      have hkx := hk.ext hx
      obtain ⟨q0, q1, qf0, qf1⟩ := hkx.two
      clear hx hk x0 hkx
      go_wp2_with fail
      refine (HN.out _).mono ?_
      rintro e w2 ⟨rfl, hx⟩
      have hs2 := hs1.ext hx
      have hk2 := hk1.ext hx
      have hr2 := hr1.ext hx
      have y2 := hx.size
      simp at y2
      have X2 := Lib.hid ((((((X1.out.setCell (p := ⟨w.heap.size, 0, none⟩) (by simp) (.int .u32 d0)).setCell (p := ⟨w.heap.size, 1, none⟩) (by simp) (.int .u32 d1)).setCell (p := ⟨w.heap.size, 2, none⟩) (by simp) (.int .u32 d2)).setCell (p := ⟨w.heap.size, 3, none⟩) (by simp) (.int .u32 d3)).trans hx))
      clear hx hs1 hk1 hr1 s0 s1 s2 s3 sf0 sf1 sf2 sf3 q0 q1 qf0 qf1
      obtain ⟨q0, q1, qf0, qf1⟩ := hk2.two
      go_wp2_with fail
      go_roundw
      case rel =>
        refine ⟨i + 1, by omega, by simp, ?_, by simp; omega, ?_, ?_, ?_⟩
        · repeat (first | with_reducible exact X2.out | (with_reducible refine Ext.setCell ?_ (by simp <;> omega) _))
        · rw [HS.out]
          exact (hs2.other (by omega) _ _).other (by omega) _ _
        · rw [HS.out]
          exact (hk2.set 0 _).set 1 _
        · exact (hr2.other (by omega) _ _).other (by omega) _ _
      case measure => simp [intOf]; omega
    · obtain rfl : i = n := by omega
      rw [HH.out] at hs
      obtain ⟨s0, s1, s2, s3, sf0, sf1, sf2, sf3⟩ := hs.four
      obtain ⟨p0, p1, p2, p3, pf0, pf1, pf2, pf3⟩ := hr.four
      clear hs hk hr
      go_wp2_with fail
      refine bodyPost_ret (v := ?_) ?_ rfl ⟨?_, ?_⟩
      rotate_left
      · simp only [results, Try.results79]
        go_simp
        with_reducible rfl
      · rfl
      · repeat (first | with_reducible exact HX_r.out | (with_reducible refine Ext.setCell ?_ (by simp <;> omega) _))
end Go.Proofs.Ytjjapblpmpidcaa
