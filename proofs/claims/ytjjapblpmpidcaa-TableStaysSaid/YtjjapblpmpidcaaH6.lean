import Derived.Test.YtjjapblpmpidcaaH5
set_option linter.unusedVariables false
set_option linter.unusedSimpArgs false
namespace Go.Proofs.Ytjjapblpmpidcaa
open Go.RowKit Num UReg

/-! ### philox.Mix, Out -/
theorem run_store_func {P : Program} {w : World} {a : Addr} {f : Fn} {x y : Array Value} (hc : (w.cell? a).isSome = true) (hf : w.frozen? a = false) : (store a (.func f x y)).run P w = .ok () (w.setCell a (.func f x y)) := by
  rw [run_store _ _ _ _ _ rfl]
  cases h : w.cell? a with
  | none => rw [h] at hc; cases hc
  | some v => simp [hf]
attribute [go_sem] run_store_func
theorem stepRow_get : ∀ (K : List Nat) (i : Nat) (h : i < K.length), (stepRow K)[i * 2]? = some (fnF K[i]) ∧ (stepRow K)[i * 2 + 1]? = some (fnB K[i])
  | kb :: K, 0, _ => by simp [stepRow]
  | kb :: K, i + 1, h => by
    have ih := stepRow_get K i (by simpa using h)
    have e1 : (i + 1) * 2 = i * 2 + 2 := by omega
    have e2 : (i + 1) * 2 + 1 = i * 2 + 1 + 2 := by omega
    have e3 : stepRow (kb :: K) = fnF kb :: fnB kb :: stepRow K := by simp [stepRow]
    rw [e2, e1, e3]
    simpa using ih
/-- The closures of K in a block. -/
def RowAt (w : World) (g : Nat) (K : List Nat) : Prop := ∀ i (h : i < K.length), w.cell? ⟨g, i * 2, none⟩ = some (fnF K[i]) ∧ w.cell? ⟨g, i * 2 + 1, none⟩ = some (fnB K[i])
theorem RowAt.ext {w w' : World} {g : Nat} {K : List Nat} (h : RowAt w g K) (x : Ext w w') : RowAt w' g K := fun i hi => ⟨x.cell (h i hi).1, x.cell (h i hi).2⟩
theorem RowAt.other {w : World} {g : Nat} {K : List Nat} (h : RowAt w g K) {b : Nat} (hb : b ≠ g) (o : Nat) (u : Value) : RowAt (w.setCell ⟨b, o, none⟩ u) g K := fun i hi => by
  obtain ⟨h1, h2⟩ := h i hi
  constructor
  · rw [World.cell?_setCell_other (h := by intro e; injection e with e1 _ _; exact hb e1), h1]
  · rw [World.cell?_setCell_other (h := by intro e; injection e with e1 _ _; exact hb e1), h2]
theorem row_of_own {w : World} {base n : Nat} {v : Value} {K : List Nat} (h : w.ownsRow base 158 2 v n (stepRow K)) (hK : K.length = n) (hn : 0 < n) :
    ∃ g cap, v = .slice (some ⟨g, 0, none⟩) n cap ∧ base ≤ g ∧ g < w.heap.size ∧ RowAt w g K := by
  have hc := fun g hg => h.cells (g := g) hg
  have hl := h.lt
  rcases h.2 with ⟨_, hz⟩ | ⟨g, cap, cur, rfl, hb, hh, _⟩
  · omega
  · refine ⟨g, cap, rfl, hb, (hl g rfl).2, fun i hi => ?_⟩
    obtain ⟨g1, g2⟩ := stepRow_get K i hi
    have e : ∀ j, (⟨g, 0, none⟩ : Addr).add j = ⟨g, j, none⟩ := fun j => by unfold Addr.add; split <;> simp_all
    have c1 := hc g rfl (i * 2) _ g1
    have c2 := hc g rfl (i * 2 + 1) _ g2
    rw [e] at c1 c2
    exact ⟨c1, c2⟩

set_option maxHeartbeats 4000000 in
theorem pMix (b : Blk) (k : Ky) (hb : WB b) (hk : WK k) (n : Nat) (hn0 : 0 < n) (hn : n ≤ 100) (r0 r1 r2 r3 : Int) (h : (mixS b k n).1 = (r0, r1, r2, r3)) (w : World) :
    Calls Try.prog 93 #[.agg #[.int .u32 b.1, .int .u32 b.2.1, .int .u32 b.2.2.1, .int .u32 b.2.2.2], .agg #[.int .u32 k.1, .int .u32 k.2], .int .i64 n] w fun e w' => e = .returned (.tuple #[.agg #[.int .u32 r0, .int .u32 r1, .int .u32 r2, .int .u32 r3], .int .i64 0]) ∧ Ext w w' := by
  have HH := Lib.hid h; clear h
  have HW := Lib.hid (w_mixS hb hk)
  have HS := Lib.hid (pSteps k n hn)
  clear hb hk
  obtain ⟨b0, b1, b2, b3⟩ := b
  obtain ⟨k0, k1⟩ := k
  go_enter Try.func93, Try.ntmps93
  go_wp2_with fail
  refine (HS.out _).mono ?_
  rintro e w1 ⟨v, K, rfl, hK, hown, hnew, hkeys, hx⟩
  obtain ⟨g, cap, rfl, hg, hg2, hrow⟩ := row_of_own hown hK hn0
  simp at hg
  have HKL := Lib.hid hK
  have HKb := Lib.hid (show ∀ kb ∈ K, w.heap.size ≠ kb from fun kb h => by have := hnew kb h; simp at this; omega)
  have HKs := Lib.hid hkeys
  have HRow := Lib.hid hrow
  clear hown hK hnew hkeys hrow
  have hc_w1 := (ext_cell hx).1
  have hf_w1 := (ext_cell hx).2
  have HX_w1 := Lib.hid hx
  have y_w1 := hx.size
  try simp at y_w1
  have z_w1_w_0 : w.heap.size < w1.heap.size := by omega
  have z_w1_w_1 : w.heap.size + 1 < w1.heap.size := by omega
  have z_w1_w_2 : w.heap.size + 2 < w1.heap.size := by omega
  clear hx
  go_wp2_with fail
  go_loopw [11, 24] (fun _ jv wr => ∃ i : Nat, i ≤ n ∧ jv = .int .i64 i ∧ Ext w wr ∧ w.heap.size + 3 ≤ wr.heap.size ∧ Cells wr w.heap.size (bCells (mixS (b0, b1, b2, b3) (k0, k1) i).1) ∧ Cells wr (w.heap.size + 1 + 1) [.int .u32 0, .int .u32 0, .int .u32 0, .int .u32 0] ∧ RowAt wr g K ∧ KeysAt wr (k0, k1) K)
    (fun _ jv _ => n - (intOf jv).toNat)
  case atStart =>
    refine ⟨0, by omega, rfl, ?_, by omega, ?_, ?_, HRow.out, HKs.out⟩
    · repeat (first | with_reducible exact Ext.refl _ | with_reducible refine Ext.alloc ?_ _ | (with_reducible refine Ext.setCell ?_ (by simp <;> omega) _) | with_reducible refine Ext.drew ?_ | with_reducible refine Ext.trans ?_ HX_w1.out)
    · exact Cells.mk4 (by go_simp <;> rfl) (by go_simp <;> rfl) (by go_simp <;> rfl) (by go_simp <;> rfl) (by go_simp) (by go_simp) (by go_simp) (by go_simp)
    · exact Cells.mk4 (by go_simp <;> rfl) (by go_simp <;> rfl) (by go_simp <;> rfl) (by go_simp <;> rfl) (by go_simp) (by go_simp) (by go_simp) (by go_simp)
  case round =>
    clear hc_w1 hf_w1 HX_w1 HRow HKs
    obtain ⟨i, hi', rfl, HX, z1, hs, hr, hrow, hkeys⟩ := hrel
    have HX_r := Lib.hid HX; clear HX
    have HRow := Lib.hid hrow; clear hrow
    have HKs := Lib.hid hkeys; clear hkeys
    by_cases hlt : i < n
    · have hlt' : (i : Int) < (n : Int) := by omega
      have hiK : i < K.length := by rw [HKL.out]; exact hlt
      obtain ⟨f1, f2⟩ := HRow.out i hiK
      have hkey := HKs.out i hiK
      have hw := (HW.out i).1
      have hkm := keyI_mix (b0, b1, b2, b3) (k0, k1) i
      have hsucc : (mixS (b0, b1, b2, b3) (k0, k1) (i + 1)).1 = rnd (mixS (b0, b1, b2, b3) (k0, k1) i).1 (mixS (b0, b1, b2, b3) (k0, k1) i).2 := rfl
      rw [hkm] at hsucc
      obtain ⟨⟨c0, c1, c2, c3⟩, hm⟩ : ∃ t, (mixS (b0, b1, b2, b3) (k0, k1) i).1 = t := ⟨_, rfl⟩
      obtain ⟨⟨l0, l1⟩, hl⟩ : ∃ t, keyI (k0, k1) i = t := ⟨_, rfl⟩
      obtain ⟨⟨d0, d1, d2, d3⟩, hd⟩ : ∃ t, rnd (c0, c1, c2, c3) (l0, l1) = t := ⟨_, rfl⟩
      obtain ⟨kb, hkb⟩ : ∃ t, K[i] = t := ⟨_, rfl⟩
      rw [hm, hl, hd] at hsucc
      rw [hm] at hs hw
      rw [hkb] at f1 f2 hkey
      rw [hl] at hkey
      have hbb : 0 ≤ c0 ∧ c0 < 4294967296 ∧ 0 ≤ c2 ∧ c2 < 4294967296 := ⟨hw.1.1, hw.1.2, hw.2.2.1.1, hw.2.2.1.2⟩
      have HF := Lib.hid fun w' (x : Cells w' kb [.int .u32 l0, .int .u32 l1]) => pForth hbb hd w' kb x
      have HSu := Lib.hid hsucc
      have HKey := Lib.hid hkey
      clear hw hkm hsucc hm hl hd hkb hkey hbb
      obtain ⟨s0, s1, s2, s3, sf0, sf1, sf2, sf3⟩ := hs.four
      simp only at s0 s1 s2 s3
      have zz : w.heap.size < wr.heap.size := by omega
      unfold fnF at f1
      unfold fnB at f2
      go_wp2_with fail
      refine (HF.out _ (HKey.out.ext ((Ext.refl wr).alloc _))).mono ?_
      rintro e w2 ⟨rfl, hx⟩
      have hX := ((Ext.refl wr).alloc _).trans hx
      have hs2 := hs.ext hX
      have hr2 := hr.ext hX
      have HRow2 := Lib.hid (HRow.out.ext hX)
      have HKs2 := Lib.hid (HKs.out.ext hX)
      have X2 := Lib.hid (HX_r.out.trans hX)
      have y2 := hX.size
      clear hx hX hs hr s0 s1 s2 s3 sf0 sf1 sf2 sf3 f1 f2
      obtain ⟨s0, s1, s2, s3, sf0, sf1, sf2, sf3⟩ := hs2.four
      go_wp2_with fail
      go_roundw
      case rel =>
        refine ⟨i + 1, by omega, by simp, ?_, by simp; omega, ?_, ?_, ?_, ?_⟩
        · repeat (first | with_reducible exact X2.out | (with_reducible refine Ext.setCell ?_ (by simp <;> omega) _))
        · rw [HSu.out]
          exact (((hs2.set 0 _).set 1 _).set 2 _).set 3 _
        · exact (((hr2.other (by omega) _ _).other (by omega) _ _).other (by omega) _ _).other (by omega) _ _
        · exact (((HRow2.out.other (by omega) _ _).other (by omega) _ _).other (by omega) _ _).other (by omega) _ _
        · exact (((HKs2.out.other HKb.out _ _).other HKb.out _ _).other HKb.out _ _).other HKb.out _ _
      case measure => simp [intOf]; omega
    · obtain rfl : i = n := by omega
      rw [HH.out] at hs
      obtain ⟨s0, s1, s2, s3, sf0, sf1, sf2, sf3⟩ := hs.four
      obtain ⟨p0, p1, p2, p3, pf0, pf1, pf2, pf3⟩ := hr.four
      clear hs hr
      go_wp2_with fail
      refine bodyPost_ret (v := ?_) ?_ rfl ⟨?_, ?_⟩
      rotate_left
      · simp only [results, Try.results93]
        go_simp
        with_reducible rfl
      · rfl
      · repeat (first | with_reducible exact HX_r.out | (with_reducible refine Ext.setCell ?_ (by simp <;> omega) _))
end Go.Proofs.Ytjjapblpmpidcaa
