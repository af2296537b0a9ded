import Derived.Test.YtjjapblpmpidcaaIA
set_option linter.unusedVariables false
set_option linter.unusedSimpArgs false
namespace Go.Proofs.Ytjjapblpmpidcaa
open Go.RowKit Num UReg

set_option maxRecDepth 100000 in
set_option maxHeartbeats 8000000 in
theorem halfTells_ok (c : V) (k0 k1 : Int) (b : Bool) (hk : WK (k0, k1)) (many : Nat) (n : V) (hm : many ≤ 256) (w : World) :
    Calls Try.prog 10 #[.agg #[.int .u64 (hi c), .int .u64 (lo c), .int .u32 k0, .int .u32 k1, .bool b], .int .i64 many, .agg #[.int .u64 (hi n), .int .u64 (lo n)]] w fun e w' => e = .returned (.bool true) ∧ Ext w w' := by
  obtain ⟨P, hP⟩ : ∃ P, wordH c (k0, k1) b = P := ⟨_, rfl⟩
  have HP := Lib.hid (hWord hk hP)
  have HP' := Lib.hid (r12Word hk hP)
  obtain ⟨x, hx⟩ : ∃ x, stepC c b = x := ⟨_, rfl⟩
  obtain ⟨b', hb'⟩ : ∃ x, (!b) = x := ⟨_, rfl⟩
  have HS := Lib.hid (hStep hx hb' k0 k1)
  have HS' := Lib.hid (rStep12 hx hb' k0 k1)
  obtain ⟨⟨d, e⟩, hd⟩ : ∃ t, jumpV c b n = t := ⟨_, rfl⟩
  have HJ := Lib.hid (hJump hd k0 k1)
  have HF := Lib.hid (r12Far hd k0 k1)
  obtain ⟨⟨b0, b1, b2, b3⟩, hb⟩ : ∃ t, blockV c = t := ⟨_, rfl⟩
  have HB := Lib.hid (hBlock hb)
  have HB' := Lib.hid (r12Block hb)
  have HW := Lib.hid (hWords_ok c k0 k1 b hk many hm)
  have HK := Lib.hid hk
  clear hk hP hx hb' hd hb
  have q1 : decide ((many : Int) < 0) = false := decide_eq_false (by omega)
  have q2 : decide (256 < (many : Int)) = false := decide_eq_false (by omega)
  obtain ⟨⟨dn, en⟩, hdn⟩ : ∃ t, jumpC c b many = t := ⟨_, rfl⟩
  rw [hdn] at HW
  have HDN := Lib.hid hdn; clear hdn
  go_enter Try.func10, Try.ntmps10
  go_wp2_with fail
  refine (awake12 _).mono ?_
  rintro e w1 ⟨rfl, hx⟩
  have hc_w1 := (ext_cell hx).1
  have hf_w1 := (ext_cell hx).2
  have HX_w1 := Lib.hid hx
  have y_w1 := hx.size
  try simp at y_w1
  have z_w1_w_0 : w.heap.size < w1.heap.size := by omega
  have z_w1_w_1 : w.heap.size + 1 < w1.heap.size := by omega
  clear hx
  go_wp2_with fail
  refine (HW.out _).mono ?_
  rintro e w2 ⟨v, rfl, hrd, hx⟩
  have HRd := Lib.hid hrd; clear hrd
  have hc_w2 := (ext_cell hx).1
  have hf_w2 := (ext_cell hx).2
  have HX_w2 := Lib.hid hx
  have y_w2 := hx.size
  try simp at y_w2
  have z_w2_w_0 : w.heap.size < w2.heap.size := by omega
  have z_w2_w_1 : w.heap.size + 1 < w2.heap.size := by omega
  clear hx
  have gs0_w2 : w2.cell? ⟨w.heap.size, 0, none⟩ = some (.int .u64 (hi c)) := by go_simp
  have gs1_w2 : w2.cell? ⟨w.heap.size, 1, none⟩ = some (.int .u64 (lo c)) := by go_simp
  have gs2_w2 : w2.cell? ⟨w.heap.size, 2, none⟩ = some (.int .u32 k0) := by go_simp
  have gs3_w2 : w2.cell? ⟨w.heap.size, 3, none⟩ = some (.int .u32 k1) := by go_simp
  have gs4_w2 : w2.cell? ⟨w.heap.size, 4, none⟩ = some (.bool b) := by go_simp
  have gn0_w2 : w2.cell? ⟨w.heap.size + 1, 0, none⟩ = some (.int .u64 (hi n)) := by go_simp
  have gn1_w2 : w2.cell? ⟨w.heap.size + 1, 1, none⟩ = some (.int .u64 (lo n)) := by go_simp
  go_wp2_with fail
  refine (hOwn _ _ _ _ _).mono ?_
  rintro e w4 ⟨rfl, hx⟩
  have hown4 : OwnK .u64 26 w4 (w2.heap.size + 1) (.slice (some ⟨w2.heap.size + 1, 0, none⟩) 0 0) [] := by
    have h := OwnK.ext (OwnK.lit .u64 26 _ (w2.heap.size + 1) [] (by simp) (by simp)) hx
    simpa using h
  have HO4 := Lib.hid hown4
  have y4 := hx.size
  simp at y4
  have X02 : Ext w w2 := by
    · repeat (first | with_reducible exact Ext.refl _ | with_reducible refine Ext.alloc ?_ _ | (with_reducible refine Ext.setCell ?_ (by simp <;> omega) _) | with_reducible refine Ext.drew ?_ | with_reducible refine Ext.trans ?_ HX_w2.out | with_reducible refine Ext.trans ?_ HX_w1.out)
  have X02 := Lib.hid X02
  have X24 : Ext w2 w4 := by
    refine Ext.trans ?_ hx
    · repeat (first | with_reducible exact Ext.refl _ | with_reducible refine Ext.alloc ?_ _ | (with_reducible refine Ext.setCell ?_ (by simp <;> omega) _) | with_reducible refine Ext.drew ?_)
  have hc_w4 := (ext_cell hx).1
  have hf_w4 := (ext_cell hx).2
  have HX_w4 := Lib.hid hx
  have y_w4 := hx.size
  try simp at y_w4
  have z_w4_w_0 : w.heap.size < w4.heap.size := by omega
  have z_w4_w_1 : w.heap.size + 1 < w4.heap.size := by omega
  have z_w4_w2_0 : w2.heap.size < w4.heap.size := by omega
  have z_w4_w2_1 : w2.heap.size + 1 < w4.heap.size := by omega
  clear hx
  have zz1 : w.heap.size < w2.heap.size + 1 := by omega
  have zz2 : w.heap.size < w2.heap.size + 1 + 1 := by omega
  have fs0_w4 : w4.cell? ⟨w.heap.size, 0, none⟩ = some (.int .u64 (hi c)) := by go_simp
  have fs1_w4 : w4.cell? ⟨w.heap.size, 1, none⟩ = some (.int .u64 (lo c)) := by go_simp
  have fs2_w4 : w4.cell? ⟨w.heap.size, 2, none⟩ = some (.int .u32 k0) := by go_simp
  have fs3_w4 : w4.cell? ⟨w.heap.size, 3, none⟩ = some (.int .u32 k1) := by go_simp
  have fs4_w4 : w4.cell? ⟨w.heap.size, 4, none⟩ = some (.bool b) := by go_simp
  have fn0_w4 : w4.cell? ⟨w.heap.size + 1, 0, none⟩ = some (.int .u64 (hi n)) := by go_simp
  have fn1_w4 : w4.cell? ⟨w.heap.size + 1, 1, none⟩ = some (.int .u64 (lo n)) := by go_simp
  have f80_w4 : w4.cell? ⟨w2.heap.size, 0, none⟩ = some (.int .u64 (hi dn)) := by go_simp
  have f8f0_w4 : w4.frozen? ⟨w2.heap.size, 0, none⟩ = false := by go_simp
  have f81_w4 : w4.cell? ⟨w2.heap.size, 1, none⟩ = some (.int .u64 (lo dn)) := by go_simp
  have f8f1_w4 : w4.frozen? ⟨w2.heap.size, 1, none⟩ = false := by go_simp
  have f82_w4 : w4.cell? ⟨w2.heap.size, 2, none⟩ = some (.int .u32 k0) := by go_simp
  have f8f2_w4 : w4.frozen? ⟨w2.heap.size, 2, none⟩ = false := by go_simp
  have f83_w4 : w4.cell? ⟨w2.heap.size, 3, none⟩ = some (.int .u32 k1) := by go_simp
  have f8f3_w4 : w4.frozen? ⟨w2.heap.size, 3, none⟩ = false := by go_simp
  have f84_w4 : w4.cell? ⟨w2.heap.size, 4, none⟩ = some (.bool en) := by go_simp
  have f8f4_w4 : w4.frozen? ⟨w2.heap.size, 4, none⟩ = false := by go_simp
  clear hc_w1 hf_w1 hc_w2 hf_w2 hc_w4 hf_w4
  have X24 := Lib.hid X24
  clear hown4 HX_w1 HX_w2 HX_w4 HW
  go_wp2_with fail
  go_loopw [10, 43] (fun want j wr => ∃ k : Nat, k ≤ many ∧ j = .int .i64 k ∧ Ext w2 wr ∧ Cells wr w2.heap.size [.int .u64 (hi dn), .int .u64 (lo dn), .int .u32 k0, .int .u32 k1, .bool en] ∧ w4.heap.size < wr.heap.size ∧ OwnK .u64 26 wr (w2.heap.size + 1) want (hws c (k0, k1) b k) ∧ want.ownBlock ≠ some w4.heap.size ∧ Cells wr w4.heap.size (sCells (jumpC c b k) k0 k1))
    (fun _ j _ => many - (intOf j).toNat)
  case atStart =>
    refine ⟨0, by omega, rfl, ?_, ?_, by simp, ?_, ?_, ?_⟩
    · repeat (first | exact X24.out | refine Ext.alloc ?_ _ | (refine Ext.setCell ?_ (by simp <;> omega) _))
    · exact Cells.mk5 (by go_simp <;> rfl) (by go_simp <;> rfl) (by go_simp <;> rfl) (by go_simp <;> rfl) (by go_simp <;> rfl) (by go_simp) (by go_simp) (by go_simp) (by go_simp) (by go_simp)
    · refine OwnK.ext (w := w4) (show OwnK .u64 26 w4 (w2.heap.size + 1) _ (hws c (k0, k1) b 0) from HO4.out) ?_
      repeat (first | exact Ext.refl _ | refine Ext.alloc ?_ _ | (refine Ext.setCell ?_ (by simp <;> omega) _))
    · simp [Value.ownBlock]; omega
    · exact Cells.mk5 (by go_simp <;> rfl) (by go_simp <;> rfl) (by go_simp <;> rfl) (by go_simp <;> rfl) (by go_simp <;> rfl) (by go_simp) (by go_simp) (by go_simp) (by go_simp) (by go_simp)
  case round =>
    obtain ⟨k, hk, rfl, HX, hb8, z1, hown, hne, hs⟩ := hrel
    have HX_r := Lib.hid HX; clear HX
    by_cases hlt : k < many
    · have hlt' : (k : Int) < (many : Int) := by omega
      have HN := Lib.hid hne; clear hne
      have hsw := hws_succ c (k0, k1) b k
      have hjc : jumpC c b (k + 1) = (stepC (jumpC c b k).1 (jumpC c b k).2, !(jumpC c b k).2) := rfl
      obtain ⟨⟨s, f⟩, hsf⟩ : ∃ t, jumpC c b k = t := ⟨_, rfl⟩
      rw [hsf] at hs hsw hjc
      simp only at hsw hjc
      obtain ⟨p, hp⟩ : ∃ p, wordH s (k0, k1) f = p := ⟨_, rfl⟩
      obtain ⟨s', hs'⟩ : ∃ p, stepC s f = p := ⟨_, rfl⟩
      obtain ⟨f', hf'⟩ : ∃ p, (!f) = p := ⟨_, rfl⟩
      rw [hp] at hsw
      rw [hs', hf'] at hjc
      have HR := Lib.hid (r12Word HK.out hp)
      have HT := Lib.hid (rStep12 hs' hf' k0 k1)
      have HSW := Lib.hid hsw
      have HJC := Lib.hid hjc
      obtain ⟨s0, s1, s2, s3, s4, sf0, sf1, sf2, sf3, sf4⟩ := hs.five
      simp only at s0 s1 s4
      clear gs0_w2 gs1_w2 gs2_w2 gs3_w2 gs4_w2 gn0_w2 gn1_w2 hsw hjc hsf hp hs' hf' fs0_w4 fs1_w4 fs2_w4 fs3_w4 fs4_w4 fn0_w4 fn1_w4 f80_w4 f81_w4 f82_w4 f83_w4 f84_w4 f8f0_w4 f8f1_w4 f8f2_w4 f8f3_w4 f8f4_w4
      go_wp2_with fail
      refine (HR.out _).mono ?_
      rintro e w5 ⟨rfl, hx⟩
      have hown5 := (hown.ext hx).ext ((Ext.refl w5).alloc (.cells #[.int .u64 p] 26))
      have hs5 := (hs.ext hx).ext ((Ext.refl w5).alloc (.cells #[.int .u64 p] 26))
      have hb5 := (hb8.ext hx).ext ((Ext.refl w5).alloc (.cells #[.int .u64 p] 26))
      have X5 := Lib.hid ((HX_r.out.trans hx).alloc (.cells #[.int .u64 p] 26))
      have y5 := hx.size
      have HXC := Lib.hid (show w2.heap.size + 1 ≤ (w5.alloc (.cells #[.int .u64 p] 26)).heap.size by simp; omega)
      clear hx hs hown hb8 s0 s1 s2 s3 s4 sf0 sf1 sf2 sf3 sf4
      go_wp2_with (at_builtin; refine wpList_appendK (k := .u64) (bytes := 8) Try.underlying89 (by kernel_rfl) (by decide) rfl (.tmp 45) (.tmp 48) rfl _ (w2.heap.size + 1) _ _ (hws c (k0, k1) b k) [p] rfl rfl hown5 (reads_oneK _ _ _ _) (by rw [hws_length]; simp; omega) HXC.out ?_)
      intro v' w6 hown6 hg6
      have hs6 := hg6.cells HN.out hs5
      have hne6 := Lib.hid (hg6.ne HN.out (by simp; omega))
      have X6 := Lib.hid (hg6.ext X5.out (fun g hg => by have := hown5.ge g hg; omega))
      have hb6 := hg6.cells (fun g => by have := hown5.ge _ g; omega) hb5
      have z6 := hg6.size
      simp at z6
      clear hg6 hs5 hown5 X5 hb5
      obtain ⟨s0, s1, s2, s3, s4, sf0, sf1, sf2, sf3, sf4⟩ := hs6.five
      simp only at s0 s1 s4
      go_wp2_with fail
      refine (HT.out _).mono ?_
      rintro e w7 ⟨rfl, hx⟩
      have hs7 := hs6.ext hx
      have hb7 := hb6.ext hx
      have hown7 := hown6.ext hx
      have X7 := Lib.hid (X6.out.trans hx)
      have y7 := hx.size
      clear hx hs6 hown6 X6 hb6 s0 s1 s2 s3 s4 sf0 sf1 sf2 sf3 sf4
      obtain ⟨s0, s1, s2, s3, s4, sf0, sf1, sf2, sf3, sf4⟩ := hs7.five
      simp only at s0 s1 s4
      go_wp2_with fail
      go_roundw
      case rel =>
        refine ⟨k + 1, by omega, by simp, ?_, ?_, by simp; omega, ?_, hne6.out, ?_⟩
        · repeat (first | exact X7.out | (refine Ext.setCell ?_ (by simp <;> omega) _))
        · exact ((((hb7.other (by omega) _ _).other (by omega) _ _).other (by omega) _ _).other (by omega) _ _).other (by omega) _ _
        · rw [HSW.out]
          exact ((((hown7.set hne6.out _).set hne6.out _).set hne6.out _).set hne6.out _).set hne6.out _
        · rw [HJC.out]
          exact ((((hs7.set 0 _).set 1 _).set 2 _).set 3 _).set 4 _
      case measure => simp [intOf]; omega
    · have e : k = many := by omega
      subst e
      rw [HDN.out] at hs
      obtain ⟨s0, s1, s2, s3, s4, sf0, sf1, sf2, sf3, sf4⟩ := hs.five
      simp only at s0 s1 s4
      obtain ⟨t0, t1, t2, t3, t4, tf0, tf1, tf2, tf3, tf4⟩ := hb8.five
      have hcr := (ext_cell HX_r.out).1
      have hfr := (ext_cell HX_r.out).2
      have zz3 : w.heap.size < wr.heap.size := by omega
      have zz4 : w.heap.size + 1 < wr.heap.size := by omega
      have zz5 : w2.heap.size < wr.heap.size := by omega
      have HU := Lib.hid hown.reads
      have HLn := Lib.hid (hws_length c (k0, k1) b k)
      have X0r := Lib.hid (X02.out.trans HX_r.out)
      clear fs0_w4 fs1_w4 fs2_w4 fs3_w4 fs4_w4 fn0_w4 fn1_w4 f80_w4 f81_w4 f82_w4 f83_w4 f84_w4 f8f0_w4 f8f1_w4 f8f2_w4 f8f3_w4 f8f4_w4 HO4 hown hne hs hb8
      try dsimp only
      repeat (first | with_reducible refine wp_region_ext ?_ [(0, 0), (1, 0), (2, 0), (3, 0), (4, 0), (5, 1), (6, 0), (7, 0), (8, 0), (9, 1), (10, 1), (11, 1), (12, 0), (13, 0)] (fun _ => true) ?_ ?_ ?_ ?_ ?_ | go_step)
      · kernel_rfl
      · kernel_rfl
      · kernel_rfl
      · kernel_rfl
      · exact (fun _ _ d _ _ h => by cases d <;> exact h)
      refine run_pure (o := ?_) (v := ?_) (a' := ?_) ?_ ?_ ?_ ?_ ?_
      rotate_left 3
      · (simp only [List.getElem?_toArray, List.getElem?_cons_succ, List.getElem?_cons_zero] <;> rfl)
      · rfl
      · intro w'
        go_simp
        with_reducible rfl
      · simp only [Act.put, List.setIfInBounds_toArray, List.set_cons_zero, List.set_cons_succ]
        rfl
      refine run_pure (o := ?_) (v := ?_) (a' := ?_) ?_ ?_ ?_ ?_ ?_
      rotate_left 3
      · (simp only [List.getElem?_toArray, List.getElem?_cons_succ, List.getElem?_cons_zero] <;> rfl)
      · rfl
      · intro w'
        go_simp
        with_reducible rfl
      · simp only [Act.put, List.setIfInBounds_toArray, List.set_cons_zero, List.set_cons_succ]
        rfl
      refine run_pure (o := ?_) (v := ?_) (a' := ?_) ?_ ?_ ?_ ?_ ?_
      rotate_left 3
      · (simp only [List.getElem?_toArray, List.getElem?_cons_succ, List.getElem?_cons_zero] <;> rfl)
      · rfl
      · intro w'
        go_simp
        with_reducible rfl
      · simp only [Act.put, List.setIfInBounds_toArray, List.set_cons_zero, List.set_cons_succ]
        rfl
      refine run_pure (o := ?_) (v := ?_) (a' := ?_) ?_ ?_ ?_ ?_ ?_
      rotate_left 3
      · (simp only [List.getElem?_toArray, List.getElem?_cons_succ, List.getElem?_cons_zero] <;> rfl)
      · rfl
      · intro w'
        go_simp
        with_reducible rfl
      · simp only [Act.put, List.setIfInBounds_toArray, List.set_cons_zero, List.set_cons_succ]
        rfl
      refine run_pure (o := ?_) (v := ?_) (a' := ?_) ?_ ?_ ?_ ?_ ?_
      rotate_left 3
      · (simp only [List.getElem?_toArray, List.getElem?_cons_succ, List.getElem?_cons_zero] <;> rfl)
      · rfl
      · intro w'
        go_simp
        with_reducible rfl
      · simp only [Act.put, List.setIfInBounds_toArray, List.set_cons_zero, List.set_cons_succ]
        rfl
      refine run_call (f := 50) (args := ?_) (o := ?_) (v := ?_) (a' := ?_) ?_ ?_ ?_ ?_ ?_ (Ext.refl _) ?_
      rotate_left 4
      · (simp only [List.getElem?_toArray, List.getElem?_cons_succ, List.getElem?_cons_zero] <;> rfl)
      · rfl
      · intro w'
        go_simp
        with_reducible rfl
      · intro w' hw'
        exact (by refine rWords _ _ (hws c (k0, k1) b k) ?_ w' (HRd.out.ext (HX_r.out.trans hw')) (HU.out.ext hw'); rw [HLn.out]; omega)
      · simp only [Act.put, List.setIfInBounds_toArray, List.set_cons_zero, List.set_cons_succ]
        rfl
      refine run_pure (o := ?_) (v := ?_) (a' := ?_) ?_ ?_ ?_ ?_ ?_
      rotate_left 3
      · (simp only [List.getElem?_toArray, List.getElem?_cons_succ, List.getElem?_cons_zero] <;> rfl)
      · rfl
      · intro w'
        go_simp
        with_reducible rfl
      · simp only [Act.put, List.setIfInBounds_toArray, List.set_cons_zero, List.set_cons_succ]
        rfl
      refine run_pure (o := ?_) (v := ?_) (a' := ?_) ?_ ?_ ?_ ?_ ?_
      rotate_left 3
      · (simp only [List.getElem?_toArray, List.getElem?_cons_succ, List.getElem?_cons_zero] <;> rfl)
      · rfl
      · intro w'
        go_simp
        with_reducible rfl
      · simp only [Act.put, List.setIfInBounds_toArray, List.set_cons_zero, List.set_cons_succ]
        rfl
      refine run_pure (o := ?_) (v := ?_) (a' := ?_) ?_ ?_ ?_ ?_ ?_
      rotate_left 3
      · (simp only [List.getElem?_toArray, List.getElem?_cons_succ, List.getElem?_cons_zero] <;> rfl)
      · rfl
      · intro w'
        go_simp
        with_reducible rfl
      · simp only [Act.put, List.setIfInBounds_toArray, List.set_cons_zero, List.set_cons_succ]
        rfl
      refine run_read (o := ?_) (v := ?_) (a' := ?_) ?_ ?_ ?_ ?_ (Ext.refl _) ?_
      rotate_left 3
      · (simp only [List.getElem?_toArray, List.getElem?_cons_succ, List.getElem?_cons_zero] <;> rfl)
      · rfl
      · intro w' hw'
        obtain ⟨hc, hf⟩ := ext_cell hw'
        clear hw'
        go_simp
        with_reducible rfl
      · simp only [Act.put, List.setIfInBounds_toArray, List.set_cons_zero, List.set_cons_succ]
        rfl
      refine run_call (f := 47) (args := ?_) (o := ?_) (v := ?_) (a' := ?_) ?_ ?_ ?_ ?_ ?_ (Ext.refl _) ?_
      rotate_left 4
      · (simp only [List.getElem?_toArray, List.getElem?_cons_succ, List.getElem?_cons_zero] <;> rfl)
      · rfl
      · intro w'
        go_simp
        with_reducible rfl
      · intro w' hw'
        exact (hOwn _ _ _ _ _)
      · simp only [Act.put, List.setIfInBounds_toArray, List.set_cons_zero, List.set_cons_succ]
        rfl
      refine run_read (o := ?_) (v := ?_) (a' := ?_) ?_ ?_ ?_ ?_ (Ext.refl _) ?_
      rotate_left 3
      · (simp only [List.getElem?_toArray, List.getElem?_cons_succ, List.getElem?_cons_zero] <;> rfl)
      · rfl
      · intro w' hw'
        obtain ⟨hc, hf⟩ := ext_cell hw'
        clear hw'
        go_simp
        with_reducible rfl
      · simp only [Act.put, List.setIfInBounds_toArray, List.set_cons_zero, List.set_cons_succ]
        rfl
      refine run_pure (o := ?_) (v := ?_) (a' := ?_) ?_ ?_ ?_ ?_ ?_
      rotate_left 3
      · (simp only [List.getElem?_toArray, List.getElem?_cons_succ, List.getElem?_cons_zero] <;> rfl)
      · rfl
      · intro w'
        go_simp
        with_reducible rfl
      · simp only [Act.put, List.setIfInBounds_toArray, List.set_cons_zero, List.set_cons_succ]
        rfl
      refine run_pure (o := ?_) (v := ?_) (a' := ?_) ?_ ?_ ?_ ?_ ?_
      rotate_left 3
      · (simp only [List.getElem?_toArray, List.getElem?_cons_succ, List.getElem?_cons_zero] <;> rfl)
      · rfl
      · intro w'
        go_simp
        with_reducible rfl
      · simp only [Act.put, List.setIfInBounds_toArray, List.set_cons_zero, List.set_cons_succ]
        rfl
      refine run_nil (fun d1 hx => ?_)
      have hc_d1 := (ext_cell hx).1
      have hf_d1 := (ext_cell hx).2
      have HX_d1 := Lib.hid hx
      have y_d1 := hx.size
      try simp at y_d1
      have z_d1_w_0 : w.heap.size < d1.heap.size := by omega
      have z_d1_w_1 : w.heap.size + 1 < d1.heap.size := by omega
      have z_d1_w2_0 : w2.heap.size < d1.heap.size := by omega
      have z_d1_w4_0 : w4.heap.size < d1.heap.size := by omega
      clear hx
      try dsimp only
      repeat (first | with_reducible refine wp_region_ext ?_ [(0, 1), (1, 1), (2, 1), (3, 1), (4, 1), (5, 0), (6, 0), (7, 1), (8, 1), (9, 1), (10, 1), (11, 1), (12, 1), (13, 0), (14, 0), (15, 0), (16, 1), (17, 1), (18, 1), (19, 1), (20, 1), (21, 1), (22, 1), (23, 1), (24, 0), (25, 0), (26, 0), (27, 0), (28, 1), (29, 1), (30, 0), (31, 1), (32, 1), (33, 0), (34, 0), (35, 0)] (fun _ => true) ?_ ?_ ?_ ?_ ?_ | go_step)
      · kernel_rfl
      · kernel_rfl
      · kernel_rfl
      · kernel_rfl
      · exact (fun _ _ d _ _ h => by cases d <;> exact h)
      refine run_read (o := ?_) (v := ?_) (a' := ?_) ?_ ?_ ?_ ?_ (Ext.refl _) ?_
      rotate_left 3
      · (simp only [List.getElem?_toArray, List.getElem?_cons_succ, List.getElem?_cons_zero] <;> rfl)
      · rfl
      · intro w' hw'
        obtain ⟨hc, hf⟩ := ext_cell hw'
        clear hw'
        go_simp
        with_reducible rfl
      · simp only [Act.put, List.setIfInBounds_toArray, List.set_cons_zero, List.set_cons_succ]
        rfl
      refine run_call (f := 51) (args := ?_) (o := ?_) (v := ?_) (a' := ?_) ?_ ?_ ?_ ?_ ?_ (Ext.refl _) ?_
      rotate_left 4
      · (simp only [List.getElem?_toArray, List.getElem?_cons_succ, List.getElem?_cons_zero] <;> rfl)
      · rfl
      · intro w'
        go_simp
        with_reducible rfl
      · intro w' hw'
        exact (HP.out _)
      · simp only [Act.put, List.setIfInBounds_toArray, List.set_cons_zero, List.set_cons_succ]
        rfl
      refine run_read (o := ?_) (v := ?_) (a' := ?_) ?_ ?_ ?_ ?_ (Ext.refl _) ?_
      rotate_left 3
      · (simp only [List.getElem?_toArray, List.getElem?_cons_succ, List.getElem?_cons_zero] <;> rfl)
      · rfl
      · intro w' hw'
        obtain ⟨hc, hf⟩ := ext_cell hw'
        clear hw'
        go_simp
        with_reducible rfl
      · simp only [Act.put, List.setIfInBounds_toArray, List.set_cons_zero, List.set_cons_succ]
        rfl
      refine run_call (f := 47) (args := ?_) (o := ?_) (v := ?_) (a' := ?_) ?_ ?_ ?_ ?_ ?_ (Ext.refl _) ?_
      rotate_left 4
      · (simp only [List.getElem?_toArray, List.getElem?_cons_succ, List.getElem?_cons_zero] <;> rfl)
      · rfl
      · intro w'
        go_simp
        with_reducible rfl
      · intro w' hw'
        exact (hOwn _ _ _ _ _)
      · simp only [Act.put, List.setIfInBounds_toArray, List.set_cons_zero, List.set_cons_succ]
        rfl
      refine run_call (f := 48) (args := ?_) (o := ?_) (v := ?_) (a' := ?_) ?_ ?_ ?_ ?_ ?_ (Ext.refl _) ?_
      rotate_left 4
      · (simp only [List.getElem?_toArray, List.getElem?_cons_succ, List.getElem?_cons_zero] <;> rfl)
      · rfl
      · intro w'
        go_simp
        with_reducible rfl
      · intro w' hw'
        exact (HP'.out _)
      · simp only [Act.put, List.setIfInBounds_toArray, List.set_cons_zero, List.set_cons_succ]
        rfl
      refine run_pure (o := ?_) (v := ?_) (a' := ?_) ?_ ?_ ?_ ?_ ?_
      rotate_left 3
      · (simp only [List.getElem?_toArray, List.getElem?_cons_succ, List.getElem?_cons_zero] <;> rfl)
      · rfl
      · intro w'
        go_simp
        with_reducible rfl
      · simp only [Act.put, List.setIfInBounds_toArray, List.set_cons_zero, List.set_cons_succ]
        rfl
      refine run_pure (o := ?_) (v := ?_) (a' := ?_) ?_ ?_ ?_ ?_ ?_
      rotate_left 3
      · (simp only [List.getElem?_toArray, List.getElem?_cons_succ, List.getElem?_cons_zero] <;> rfl)
      · rfl
      · intro w'
        go_simp
        with_reducible rfl
      · simp only [Act.put, List.setIfInBounds_toArray, List.set_cons_zero, List.set_cons_succ]
        rfl
      refine run_read (o := ?_) (v := ?_) (a' := ?_) ?_ ?_ ?_ ?_ (Ext.refl _) ?_
      rotate_left 3
      · (simp only [List.getElem?_toArray, List.getElem?_cons_succ, List.getElem?_cons_zero] <;> rfl)
      · rfl
      · intro w' hw'
        obtain ⟨hc, hf⟩ := ext_cell hw'
        clear hw'
        go_simp
        with_reducible rfl
      · simp only [Act.put, List.setIfInBounds_toArray, List.set_cons_zero, List.set_cons_succ]
        rfl
      refine run_call (f := 52) (args := ?_) (o := ?_) (v := ?_) (a' := ?_) ?_ ?_ ?_ ?_ ?_ (Ext.refl _) ?_
      rotate_left 4
      · (simp only [List.getElem?_toArray, List.getElem?_cons_succ, List.getElem?_cons_zero] <;> rfl)
      · rfl
      · intro w'
        go_simp
        with_reducible rfl
      · intro w' hw'
        exact (HS.out _)
      · simp only [Act.put, List.setIfInBounds_toArray, List.set_cons_zero, List.set_cons_succ]
        rfl
      refine run_call (f := 47) (args := ?_) (o := ?_) (v := ?_) (a' := ?_) ?_ ?_ ?_ ?_ ?_ (Ext.refl _) ?_
      rotate_left 4
      · (simp only [List.getElem?_toArray, List.getElem?_cons_succ, List.getElem?_cons_zero] <;> rfl)
      · rfl
      · intro w'
        go_simp
        with_reducible rfl
      · intro w' hw'
        exact (hOwn _ _ _ _ _)
      · simp only [Act.put, List.setIfInBounds_toArray, List.set_cons_zero, List.set_cons_succ]
        rfl
      refine run_read (o := ?_) (v := ?_) (a' := ?_) ?_ ?_ ?_ ?_ (Ext.refl _) ?_
      rotate_left 3
      · (simp only [List.getElem?_toArray, List.getElem?_cons_succ, List.getElem?_cons_zero] <;> rfl)
      · rfl
      · intro w' hw'
        obtain ⟨hc, hf⟩ := ext_cell hw'
        clear hw'
        go_simp
        with_reducible rfl
      · simp only [Act.put, List.setIfInBounds_toArray, List.set_cons_zero, List.set_cons_succ]
        rfl
      refine run_call (f := 47) (args := ?_) (o := ?_) (v := ?_) (a' := ?_) ?_ ?_ ?_ ?_ ?_ (Ext.refl _) ?_
      rotate_left 4
      · (simp only [List.getElem?_toArray, List.getElem?_cons_succ, List.getElem?_cons_zero] <;> rfl)
      · rfl
      · intro w'
        go_simp
        with_reducible rfl
      · intro w' hw'
        exact (hOwn _ _ _ _ _)
      · simp only [Act.put, List.setIfInBounds_toArray, List.set_cons_zero, List.set_cons_succ]
        rfl
      refine run_call (f := 49) (args := ?_) (o := ?_) (v := ?_) (a' := ?_) ?_ ?_ ?_ ?_ ?_ (Ext.refl _) ?_
      rotate_left 4
      · (simp only [List.getElem?_toArray, List.getElem?_cons_succ, List.getElem?_cons_zero] <;> rfl)
      · rfl
      · intro w'
        go_simp
        with_reducible rfl
      · intro w' hw'
        exact (HS'.out _)
      · simp only [Act.put, List.setIfInBounds_toArray, List.set_cons_zero, List.set_cons_succ]
        rfl
      refine run_pure (o := ?_) (v := ?_) (a' := ?_) ?_ ?_ ?_ ?_ ?_
      rotate_left 3
      · (simp only [List.getElem?_toArray, List.getElem?_cons_succ, List.getElem?_cons_zero] <;> rfl)
      · rfl
      · intro w'
        go_simp
        with_reducible rfl
      · simp only [Act.put, List.setIfInBounds_toArray, List.set_cons_zero, List.set_cons_succ]
        rfl
      refine run_pure (o := ?_) (v := ?_) (a' := ?_) ?_ ?_ ?_ ?_ ?_
      rotate_left 3
      · (simp only [List.getElem?_toArray, List.getElem?_cons_succ, List.getElem?_cons_zero] <;> rfl)
      · rfl
      · intro w'
        go_simp
        with_reducible rfl
      · simp only [Act.put, List.setIfInBounds_toArray, List.set_cons_zero, List.set_cons_succ]
        rfl
      refine run_pure (o := ?_) (v := ?_) (a' := ?_) ?_ ?_ ?_ ?_ ?_
      rotate_left 3
      · (simp only [List.getElem?_toArray, List.getElem?_cons_succ, List.getElem?_cons_zero] <;> rfl)
      · rfl
      · intro w'
        go_simp
        with_reducible rfl
      · simp only [Act.put, List.setIfInBounds_toArray, List.set_cons_zero, List.set_cons_succ]
        rfl
      refine run_read (o := ?_) (v := ?_) (a' := ?_) ?_ ?_ ?_ ?_ (Ext.refl _) ?_
      rotate_left 3
      · (simp only [List.getElem?_toArray, List.getElem?_cons_succ, List.getElem?_cons_zero] <;> rfl)
      · rfl
      · intro w' hw'
        obtain ⟨hc, hf⟩ := ext_cell hw'
        clear hw'
        go_simp
        with_reducible rfl
      · simp only [Act.put, List.setIfInBounds_toArray, List.set_cons_zero, List.set_cons_succ]
        rfl
      refine run_read (o := ?_) (v := ?_) (a' := ?_) ?_ ?_ ?_ ?_ (Ext.refl _) ?_
      rotate_left 3
      · (simp only [List.getElem?_toArray, List.getElem?_cons_succ, List.getElem?_cons_zero] <;> rfl)
      · rfl
      · intro w' hw'
        obtain ⟨hc, hf⟩ := ext_cell hw'
        clear hw'
        go_simp
        with_reducible rfl
      · simp only [Act.put, List.setIfInBounds_toArray, List.set_cons_zero, List.set_cons_succ]
        rfl
      refine run_call (f := 53) (args := ?_) (o := ?_) (v := ?_) (a' := ?_) ?_ ?_ ?_ ?_ ?_ (Ext.refl _) ?_
      rotate_left 4
      · (simp only [List.getElem?_toArray, List.getElem?_cons_succ, List.getElem?_cons_zero] <;> rfl)
      · rfl
      · intro w'
        go_simp
        with_reducible rfl
      · intro w' hw'
        exact (HJ.out _)
      · simp only [Act.put, List.setIfInBounds_toArray, List.set_cons_zero, List.set_cons_succ]
        rfl
      refine run_call (f := 47) (args := ?_) (o := ?_) (v := ?_) (a' := ?_) ?_ ?_ ?_ ?_ ?_ (Ext.refl _) ?_
      rotate_left 4
      · (simp only [List.getElem?_toArray, List.getElem?_cons_succ, List.getElem?_cons_zero] <;> rfl)
      · rfl
      · intro w'
        go_simp
        with_reducible rfl
      · intro w' hw'
        exact (hOwn _ _ _ _ _)
      · simp only [Act.put, List.setIfInBounds_toArray, List.set_cons_zero, List.set_cons_succ]
        rfl
      refine run_read (o := ?_) (v := ?_) (a' := ?_) ?_ ?_ ?_ ?_ (Ext.refl _) ?_
      rotate_left 3
      · (simp only [List.getElem?_toArray, List.getElem?_cons_succ, List.getElem?_cons_zero] <;> rfl)
      · rfl
      · intro w' hw'
        obtain ⟨hc, hf⟩ := ext_cell hw'
        clear hw'
        go_simp
        with_reducible rfl
      · simp only [Act.put, List.setIfInBounds_toArray, List.set_cons_zero, List.set_cons_succ]
        rfl
      refine run_call (f := 47) (args := ?_) (o := ?_) (v := ?_) (a' := ?_) ?_ ?_ ?_ ?_ ?_ (Ext.refl _) ?_
      rotate_left 4
      · (simp only [List.getElem?_toArray, List.getElem?_cons_succ, List.getElem?_cons_zero] <;> rfl)
      · rfl
      · intro w'
        go_simp
        with_reducible rfl
      · intro w' hw'
        exact (hOwn _ _ _ _ _)
      · simp only [Act.put, List.setIfInBounds_toArray, List.set_cons_zero, List.set_cons_succ]
        rfl
      refine run_read (o := ?_) (v := ?_) (a' := ?_) ?_ ?_ ?_ ?_ (Ext.refl _) ?_
      rotate_left 3
      · (simp only [List.getElem?_toArray, List.getElem?_cons_succ, List.getElem?_cons_zero] <;> rfl)
      · rfl
      · intro w' hw'
        obtain ⟨hc, hf⟩ := ext_cell hw'
        clear hw'
        go_simp
        with_reducible rfl
      · simp only [Act.put, List.setIfInBounds_toArray, List.set_cons_zero, List.set_cons_succ]
        rfl
      refine run_call (f := 54) (args := ?_) (o := ?_) (v := ?_) (a' := ?_) ?_ ?_ ?_ ?_ ?_ (Ext.refl _) ?_
      rotate_left 4
      · (simp only [List.getElem?_toArray, List.getElem?_cons_succ, List.getElem?_cons_zero] <;> rfl)
      · rfl
      · intro w'
        go_simp
        with_reducible rfl
      · intro w' hw'
        exact (HF.out _)
      · simp only [Act.put, List.setIfInBounds_toArray, List.set_cons_zero, List.set_cons_succ]
        rfl
      refine run_pure (o := ?_) (v := ?_) (a' := ?_) ?_ ?_ ?_ ?_ ?_
      rotate_left 3
      · (simp only [List.getElem?_toArray, List.getElem?_cons_succ, List.getElem?_cons_zero] <;> rfl)
      · rfl
      · intro w'
        go_simp
        with_reducible rfl
      · simp only [Act.put, List.setIfInBounds_toArray, List.set_cons_zero, List.set_cons_succ]
        rfl
      refine run_pure (o := ?_) (v := ?_) (a' := ?_) ?_ ?_ ?_ ?_ ?_
      rotate_left 3
      · (simp only [List.getElem?_toArray, List.getElem?_cons_succ, List.getElem?_cons_zero] <;> rfl)
      · rfl
      · intro w'
        go_simp
        with_reducible rfl
      · simp only [Act.put, List.setIfInBounds_toArray, List.set_cons_zero, List.set_cons_succ]
        rfl
      refine run_pure (o := ?_) (v := ?_) (a' := ?_) ?_ ?_ ?_ ?_ ?_
      rotate_left 3
      · (simp only [List.getElem?_toArray, List.getElem?_cons_succ, List.getElem?_cons_zero] <;> rfl)
      · rfl
      · intro w'
        go_simp
        with_reducible rfl
      · simp only [Act.put, List.setIfInBounds_toArray, List.set_cons_zero, List.set_cons_succ]
        rfl
      refine run_pure (o := ?_) (v := ?_) (a' := ?_) ?_ ?_ ?_ ?_ ?_
      rotate_left 3
      · (simp only [List.getElem?_toArray, List.getElem?_cons_succ, List.getElem?_cons_zero] <;> rfl)
      · rfl
      · intro w'
        go_simp
        with_reducible rfl
      · simp only [Act.put, List.setIfInBounds_toArray, List.set_cons_zero, List.set_cons_succ]
        rfl
      refine run_read (o := ?_) (v := ?_) (a' := ?_) ?_ ?_ ?_ ?_ (Ext.refl _) ?_
      rotate_left 3
      · (simp only [List.getElem?_toArray, List.getElem?_cons_succ, List.getElem?_cons_zero] <;> rfl)
      · rfl
      · intro w' hw'
        obtain ⟨hc, hf⟩ := ext_cell hw'
        clear hw'
        go_simp
        with_reducible rfl
      · simp only [Act.put, List.setIfInBounds_toArray, List.set_cons_zero, List.set_cons_succ]
        rfl
      refine run_call (f := 55) (args := ?_) (o := ?_) (v := ?_) (a' := ?_) ?_ ?_ ?_ ?_ ?_ (Ext.refl _) ?_
      rotate_left 4
      · (simp only [List.getElem?_toArray, List.getElem?_cons_succ, List.getElem?_cons_zero] <;> rfl)
      · rfl
      · intro w'
        go_simp
        with_reducible rfl
      · intro w' hw'
        exact (HB.out _)
      · simp only [Act.put, List.setIfInBounds_toArray, List.set_cons_zero, List.set_cons_succ]
        rfl
      refine run_pure (o := ?_) (v := ?_) (a' := ?_) ?_ ?_ ?_ ?_ ?_
      rotate_left 3
      · (simp only [List.getElem?_toArray, List.getElem?_cons_succ, List.getElem?_cons_zero] <;> rfl)
      · rfl
      · intro w'
        go_simp
        with_reducible rfl
      · simp only [Act.put, List.setIfInBounds_toArray, List.set_cons_zero, List.set_cons_succ]
        rfl
      refine run_read (o := ?_) (v := ?_) (a' := ?_) ?_ ?_ ?_ ?_ (Ext.refl _) ?_
      rotate_left 3
      · (simp only [List.getElem?_toArray, List.getElem?_cons_succ, List.getElem?_cons_zero] <;> rfl)
      · rfl
      · intro w' hw'
        obtain ⟨hc, hf⟩ := ext_cell hw'
        clear hw'
        go_simp
        with_reducible rfl
      · simp only [Act.put, List.setIfInBounds_toArray, List.set_cons_zero, List.set_cons_succ]
        rfl
      refine run_call (f := 56) (args := ?_) (o := ?_) (v := ?_) (a' := ?_) ?_ ?_ ?_ ?_ ?_ (Ext.refl _) ?_
      rotate_left 4
      · (simp only [List.getElem?_toArray, List.getElem?_cons_succ, List.getElem?_cons_zero] <;> rfl)
      · rfl
      · intro w'
        go_simp
        with_reducible rfl
      · intro w' hw'
        exact (HB'.out _)
      · simp only [Act.put, List.setIfInBounds_toArray, List.set_cons_zero, List.set_cons_succ]
        rfl
      refine run_pure (o := ?_) (v := ?_) (a' := ?_) ?_ ?_ ?_ ?_ ?_
      rotate_left 3
      · (simp only [List.getElem?_toArray, List.getElem?_cons_succ, List.getElem?_cons_zero] <;> rfl)
      · rfl
      · intro w'
        go_simp
        with_reducible rfl
      · simp only [Act.put, List.setIfInBounds_toArray, List.set_cons_zero, List.set_cons_succ]
        rfl
      refine run_pure (o := ?_) (v := ?_) (a' := ?_) ?_ ?_ ?_ ?_ ?_
      rotate_left 3
      · (simp only [List.getElem?_toArray, List.getElem?_cons_succ, List.getElem?_cons_zero] <;> rfl)
      · rfl
      · intro w'
        go_simp
        with_reducible rfl
      · simp only [Act.put, List.setIfInBounds_toArray, List.set_cons_zero, List.set_cons_succ]
        rfl
      refine run_pure (o := ?_) (v := ?_) (a' := ?_) ?_ ?_ ?_ ?_ ?_
      rotate_left 3
      · (simp only [List.getElem?_toArray, List.getElem?_cons_succ, List.getElem?_cons_zero] <;> rfl)
      · rfl
      · intro w'
        go_simp
        with_reducible rfl
      · simp only [Act.put, List.setIfInBounds_toArray, List.set_cons_zero, List.set_cons_succ]
        rfl
      refine run_nil (fun a1 hx => ?_)
      have hc_a1 := (ext_cell hx).1
      have hf_a1 := (ext_cell hx).2
      have HX_a1 := Lib.hid hx
      have y_a1 := hx.size
      try simp at y_a1
      have z_a1_w_0 : w.heap.size < a1.heap.size := by omega
      have z_a1_w_1 : w.heap.size + 1 < a1.heap.size := by omega
      clear hx
      go_wp2
      go_ret
      exact ⟨by simp, (X0r.out.trans HX_d1.out).trans HX_a1.out⟩
theorem halfTells_walk (c : V) (k0 k1 : Int) (b : Bool) (hk : WK (k0, k1)) (many : Int) (_ : (Lit.int .i64 many).wf = true) (n : V) (w : World) :
    Calls Try.prog 10 #[.agg #[.int .u64 (hi c), .int .u64 (lo c), .int .u32 k0, .int .u32 k1, .bool b], .int .i64 many, .agg #[.int .u64 (hi n), .int .u64 (lo n)]] w fun e w' => e = .returned (.bool true) ∧ Ext w w' := by
  by_cases h : many < 0 ∨ 256 < many
  · exact halfTells_bad c k0 k1 b hk many n h w
  · obtain ⟨m, rfl⟩ := Int.eq_ofNat_of_zero_le (show 0 ≤ many by omega)
    exact halfTells_ok c k0 k1 b hk m n (by omega) w
end Go.Proofs.Ytjjapblpmpidcaa
