import Derived.Test.YtjjapblpmpidcaaI8
import Derived.Test.YtjjapblpmpidcaaXO
set_option linter.unusedVariables false
set_option linter.unusedSimpArgs false
namespace Go.Proofs.Ytjjapblpmpidcaa
open Go.RowKit Num UReg

/-! ### ref12.Far -/
theorem bitsN_cons (b n k : Nat) (hb : b < 2) : (b : Int) :: bitsN n k = bitsN (2 * n + b) (k + 1) := by
  unfold bitsN
  rw [List.range_succ_eq_map, List.map_cons, List.map_map]
  congr 1
  · have : (2 * n + b) / 2 ^ 0 % 2 = b := by rw [Nat.pow_zero, Nat.div_one]; omega
    rw [this]
  · refine List.map_congr_left fun i _ => ?_
    simp only [Function.comp_apply]
    rw [Nat.pow_succ', ← Nat.div_div_eq_div_mul]
    have : (2 * n + b) / 2 = n := by omega
    rw [this]
theorem bitsN_more (n k : Nat) (hn : n < 2 ^ k) : bitsN n k ++ [0] = bitsN n (k + 1) := by
  rw [bitsN_succ, Nat.div_eq_of_lt hn]
  rfl
theorem bitsN_mid (n k m i : Nat) (him : i + m ≤ k) : ((bitsN n k).drop i).take m = bitsN (n / 2 ^ i) m := by
  apply List.ext_getElem
  · simp [bitsN]; omega
  · intro j h1 h2
    simp [bitsN, Nat.div_div_eq_div_mul, ← Nat.pow_add]
theorem ofBits_bitsN (n : Nat) : ofBits (bitsN n 128) = BitVec.ofNat 128 n :=
  ofBits_eq _ _ fun i hi => by rw [bitsN_get _ _ _ hi]; rfl
theorem jump_far (c : V) (b : Bool) (n : V) : jumpV c b n = (BitVec.ofNat 128 ((2 * c.toNat + b.toNat + n.toNat) / 2), decide ((2 * c.toNat + b.toNat + n.toNat) % 2 = 1)) := by
  have hs := toNat_shr1 n
  unfold jumpV stepC
  by_cases p : n.toNat % 2 = 1
  · rw [if_pos p]
    cases b
    · simp only [Bool.false_eq_true, if_false, Bool.toNat_false, Bool.not_false]
      refine Prod.ext (BitVec.eq_of_toNat_eq ?_) ?_
      · simp only [BitVec.toNat_add, BitVec.toNat_ofNat]
        rw [hs]; omega
      · simp only; symm; rw [decide_eq_true_iff]; omega
    · simp only [if_true, Bool.toNat_true, Bool.not_true]
      refine Prod.ext (BitVec.eq_of_toNat_eq ?_) ?_
      · simp only [BitVec.toNat_add, BitVec.toNat_ofNat]
        rw [hs]; omega
      · simp only; symm; rw [decide_eq_false_iff_not]; omega
  · rw [if_neg p]
    cases b
    · simp only [Bool.toNat_false]
      refine Prod.ext (BitVec.eq_of_toNat_eq ?_) ?_
      · simp only [BitVec.toNat_add, BitVec.toNat_ofNat]
        rw [hs]; omega
      · simp only; symm; rw [decide_eq_false_iff_not]; omega
    · simp only [Bool.toNat_true]
      refine Prod.ext (BitVec.eq_of_toNat_eq ?_) ?_
      · simp only [BitVec.toNat_add, BitVec.toNat_ofNat]
        rw [hs]; omega
      · simp only; symm; rw [decide_eq_true_iff]; omega
theorem readsAt_mid {w : World} {g cap i m : Nat} {xs : List Int} (him : i + m ≤ xs.length) (hc : ∀ j (h : j < xs.length), w.cell? ⟨g, j, none⟩ = some (.int .i64 xs[j])) : ReadsAt w .i64 (.slice (some ⟨g, i, none⟩) m cap) ((xs.drop i).take m) := by
  have hl : ((xs.drop i).take m).length = m := by simp; omega
  refine ⟨some ⟨g, i, none⟩, cap, by rw [hl], fun j hj => ⟨g, i, rfl, ?_⟩⟩
  rw [hl] at hj
  rw [hc (i + j) (by omega)]
  simp
set_option maxHeartbeats 4000000 in
theorem r12Far {c d : V} {b b' : Bool} {n : V} (h : jumpV c b n = (d, b')) (k0 k1 : Int) (w : World) : Calls Try.prog 54 #[.agg #[.int .u64 (hi c), .int .u64 (lo c), .int .u32 k0, .int .u32 k1, .bool b], .agg #[.int .u64 (hi n), .int .u64 (lo n)]] w fun e w' =>
    e = .returned (.agg #[.int .u64 (hi d), .int .u64 (lo d), .int .u32 k0, .int .u32 k1, .bool b']) ∧ Ext w w' := by
  rw [jump_far, Prod.mk.injEq] at h
  obtain ⟨h1, h2⟩ := h
  obtain ⟨T, hT⟩ : ∃ T, 2 * c.toNat + b.toNat + n.toNat = T := ⟨_, rfl⟩
  rw [hT] at h1 h2
  obtain ⟨o, ho⟩ : ∃ o : Nat, b.toNat = o := ⟨_, rfl⟩
  rw [ho] at hT
  have ho1 : o < 2 := by cases b <;> simp at ho <;> omega
  have HT := Lib.hid hT; clear hT
  have H1 := Lib.hid h1; clear h1
  have HO := Lib.hid ho
  have HX := Lib.hid (show [(o : Int)] ++ listV c = bitsN (2 * c.toNat + o) 129 from bitsN_cons o c.toNat 128 ho1)
  have HY := Lib.hid (show listV n ++ [0] = bitsN n.toNat 129 from bitsN_more n.toNat 128 n.isLt)
  have hT0 : ((bitsN T 130)[0]?.getD 0) = ((T % 2 : Nat) : Int) := by rw [bitsN_get _ _ _ (by decide)]; simp
  have hb2 : decide (((T % 2 : Nat) : Int) = 1) = b' := by
    rw [← h2]
    exact decide_eq_decide.2 ⟨fun e => by omega, fun e => by omega⟩
  have hb3 : (((T % 2 : Nat) : Int) == 1) = b' := by rw [← hb2]; rfl
  clear h2
  have HT0 := Lib.hid hT0; clear hT0
  obtain ⟨t, ht⟩ : ∃ t : Int, ((T % 2 : Nat) : Int) = t := ⟨_, rfl⟩
  rw [ht] at hb2 hb3
  have HTT := Lib.hid ht; clear ht
  clear ho
  cases b
  · obtain rfl : o = 0 := HO.out.symm
    clear HO ho1
    go_enter Try.func54, Try.ntmps54
    go_wp2_with fail
    refine (rList _ _).mono ?_
    rintro e w1 ⟨v1, rfl, hown1, hx⟩
    have hownA : OwnI w1 (w.heap.size + 1 + 1 + 1) (.slice (some ⟨w.heap.size + 1 + 1 + 1, 0, none⟩) 1 1) [(0 : Int)] := by
      have h := OwnI.ext (OwnI.lit _ (w.heap.size + 1 + 1 + 1) [(0 : Int)] (by simp) (by simp)) hx
      simpa using h
    have hc_w1 := (ext_cell hx).1
    have hf_w1 := (ext_cell hx).2
    have HX_w1 := Lib.hid hx
    have y_w1 := hx.size
    try simp at y_w1
    have z_w1_w_0 : w.heap.size < w1.heap.size := by omega
    have z_w1_w_1 : w.heap.size + 1 < w1.heap.size := by omega
    have z_w1_w_2 : w.heap.size + 2 < w1.heap.size := by omega
    have z_w1_w_3 : w.heap.size + 3 < w1.heap.size := by omega
    clear hx
    have hr1 := hown1.reads
    have hca : Cells w1 w.heap.size [.int .u64 (hi c), .int .u64 (lo c), .int .u32 k0, .int .u32 k1, .bool false] := Cells.mk5 (by go_simp <;> rfl) (by go_simp <;> rfl) (by go_simp <;> rfl) (by go_simp <;> rfl) (by go_simp <;> rfl) (by go_simp) (by go_simp) (by go_simp) (by go_simp) (by go_simp)
    have hcb : Cells w1 (w.heap.size + 1) [.int .u64 (hi n), .int .u64 (lo n)] := Cells.mk2 (by go_simp <;> rfl) (by go_simp <;> rfl) (by go_simp) (by go_simp)
    have hcc : Cells w1 (w.heap.size + 1 + 1) [.int .u64 0, .int .u64 0, .int .u32 0, .int .u32 0, .bool false] := Cells.mk5 (by go_simp <;> rfl) (by go_simp <;> rfl) (by go_simp <;> rfl) (by go_simp <;> rfl) (by go_simp <;> rfl) (by go_simp) (by go_simp) (by go_simp) (by go_simp) (by go_simp)
    have X1 : Ext w w1 := by
      refine Ext.trans ?_ HX_w1.out
      · repeat (first | with_reducible exact Ext.refl _ | with_reducible refine Ext.alloc ?_ _ | (with_reducible refine Ext.setCell ?_ (by simp <;> omega) _) | with_reducible refine Ext.drew ?_)
    have X1 := Lib.hid X1
    clear hc_w1 hf_w1 HX_w1
    go_wp2_with (at_builtin; refine wpList_appendI rfl (.tmp 12) (.tmp 15) rfl _ (w.heap.size + 1 + 1 + 1) _ _ [(0 : Int)] (listV c) rfl rfl hownA hr1 (by rw [listV_length]; simp) (by omega) ?_)
    intro v2 w2 hown2 hX2 hC2 z2
    have X2 := Lib.hid (hX2 w (by omega) X1.out)
    have hca2 := hC2 _ _ (by omega) hca
    have hcb2 := hC2 _ _ (by omega) hcb
    have hcc2 := hC2 _ _ (by omega) hcc
    replace hown2 : OwnI w2 (w.heap.size + 1 + 1 + 1) v2 (bitsN (2 * c.toNat + 0) 129) := HX.out ▸ hown2
    have HR2 := Lib.hid hown2.reads
    clear hX2 hC2 hca hcb hcc hown1 hr1 hownA hown2 X1
    obtain ⟨p0, p1, pf0, pf1⟩ := hcb2.two
    have zz2 : w.heap.size + 1 + 1 + 1 < w2.heap.size := by omega
    have zz3 : w.heap.size + 1 < w2.heap.size := by omega
    go_wp2_with fail
    refine (rList _ _).mono ?_
    rintro e w3 ⟨v3, rfl, hown3, hx⟩
    have hownB : OwnI w3 w2.heap.size (.slice (some ⟨w2.heap.size, 0, none⟩) 0 0) [] := by
      have h := OwnI.ext (OwnI.lit _ w2.heap.size [] (by simp) (by simp)) hx
      simpa using h
    have X3 := Lib.hid (((Ext.refl w2).alloc _).trans hx)
    have hr3 := hown3.reads
    have z3 := X3.out.size
    clear hx hown3
    go_wp2_with (at_builtin; refine wpList_appendI rfl (.tmp 17) (.tmp 19) rfl _ w2.heap.size _ _ [] (listV n) rfl rfl hownB hr3 (by rw [listV_length]; simp) (by omega) ?_)
    intro v4 w4 hown4 hX4 hC4 z4
    have X4 := Lib.hid (hX4 w2 (by omega) X3.out)
    clear hX4 hC4 hownB hr3 X3
    have hown5 := hown4.ext ((Ext.refl w4).alloc (.cells #[.int .i64 0] 3))
    clear hown4
    go_wp2_with (at_builtin; refine wpList_appendI rfl (.tmp 20) (.tmp 21) rfl _ w2.heap.size _ _ (listV n) [0] rfl rfl hown5 (reads_one _ _) (by rw [listV_length]; simp) (by simp; omega) ?_)
    intro v6 w6 hown6 hX6 hC6 z6
    have X6 := Lib.hid (hX6 w2 (by omega) (X4.out.alloc _))
    rw [HY.out] at hown6
    have HR6 := Lib.hid hown6.reads
    clear hX6 hC6 hown5 hown6 X4
    have HS := Lib.hid (rSum (2 * c.toNat + 0) n.toNat 129 (by have := c.isLt; omega) (by have := n.isLt; omega) (by omega) v2 v6 w6 (HR2.out.ext X6.out) HR6.out)
    go_wp2_with fail
    refine HS.out.mono ?_
    rintro e w7 ⟨v7, rfl, hown7, hx⟩
    rw [HT.out] at hown7
    have hL := bitsN_length T 130
    obtain ⟨g, cap, rfl, hg, hg2, hcap, hcm, hcell⟩ := own_form hown7 (by rw [hL]; omega)
    have hhead := hcell 0 (by rw [hL]; omega)
    have HH0 : (bitsN T 130)[0]'(by rw [hL]; omega) = t := by
      have h0 := HT0.out
      rw [List.getElem?_eq_getElem (by rw [hL]; omega)] at h0
      rw [← HTT.out]
      exact h0
    rw [HH0] at hhead
    have HRA := Lib.hid (readsAt_mid (cap := cap - 1) (i := 1) (m := 128) (by rw [hL]; omega) hcell)
    rw [hL] at hcap ⊢
    have HOf := Lib.hid fun w' (x : Ext w7 w') => rOfO _ _ w' (HRA.out.ext x) (fun y hy => bitsN_bounds T 130 y (List.mem_of_mem_drop (List.mem_of_mem_take hy))) (by rw [List.length_take]; omega)
    have hval : ofBits (((bitsN T 130).drop 1).take 128) = d := by
      rw [bitsN_mid T 130 128 1 (by omega), ofBits_bitsN, Nat.pow_one]
      exact H1.out
    have HV := Lib.hid hval
    rw [HV.out] at HOf
    clear hval hcell HRA hown7 HT0 HH0 hL
    have X7 := Lib.hid (X6.out.trans hx)
    have hca7 := hca2.ext X7.out
    have hcc7 := hcc2.ext X7.out
    have X0 := Lib.hid (X2.out.trans X7.out)
    obtain ⟨a0, a1, a2, a3, a4, af0, af1, af2, af3, af4⟩ := hca7.five
    obtain ⟨r0, r1, r2, r3, r4, rf0, rf1, rf2, rf3, rf4⟩ := hcc7.five
    have z7 := X7.out.size
    have zz7 : w.heap.size + 1 + 1 < w7.heap.size := by omega
    have zz8 : w.heap.size < w7.heap.size := by omega
    have hcap' : (129 : Int) ≤ cap := by omega
    have hcap1 : ¬ cap = 1 := by omega
    clear hca2 hcb2 hcc2 hca7 hcc7 hx HS HR2 HR6 X6 X2 p0 p1 pf0 pf1
    try dsimp only
    repeat (first | with_reducible refine wp_region_ext ?_ [(0, 0), (1, 0), (2, 1), (3, 0), (4, 1), (5, 0), (6, 0), (7, 1), (8, 0), (9, 0), (10, 2)] (fun i => !(i == 10)) ?_ ?_ ?_ ?_ ?_ | go_step)
    · kernel_rfl
    · kernel_rfl
    · kernel_rfl
    · kernel_rfl
    · exact (fun _ _ d _ _ h => by cases d <;> exact h)
    refine run_pure (o := ?_) (v := ?_) (a' := ?_) ?_ ?_ ?_ ?_ ?_
    rotate_left 3
    · (simp only [List.getElem?_toArray, List.getElem?_cons_succ, List.getElem?_cons_zero] <;> rfl)
    · rfl
    · intro w'
      go_simp
      with_reducible rfl
    · simp only [Act.put, List.setIfInBounds_toArray, List.set_cons_zero, List.set_cons_succ]
      rfl
    refine run_pure (o := ?_) (v := ?_) (a' := ?_) ?_ ?_ ?_ ?_ ?_
    rotate_left 3
    · (simp only [List.getElem?_toArray, List.getElem?_cons_succ, List.getElem?_cons_zero] <;> rfl)
    · rfl
    · intro w'
      go_simp
      with_reducible rfl
    · simp only [Act.put, List.setIfInBounds_toArray, List.set_cons_zero, List.set_cons_succ]
      rfl
    refine run_call (f := 83) (args := ?_) (o := ?_) (v := ?_) (a' := ?_) ?_ ?_ ?_ ?_ ?_ (Ext.refl _) ?_
    rotate_left 4
    · (simp only [List.getElem?_toArray, List.getElem?_cons_succ, List.getElem?_cons_zero] <;> rfl)
    · rfl
    · intro w'
      go_simp
      with_reducible rfl
    · intro w' hw'
      exact (HOf.out _ hw')
    · simp only [Act.put, List.setIfInBounds_toArray, List.set_cons_zero, List.set_cons_succ]
      rfl
    refine run_pure (o := ?_) (v := ?_) (a' := ?_) ?_ ?_ ?_ ?_ ?_
    rotate_left 3
    · (simp only [List.getElem?_toArray, List.getElem?_cons_succ, List.getElem?_cons_zero] <;> rfl)
    · rfl
    · intro w'
      go_simp
      with_reducible rfl
    · simp only [Act.put, List.setIfInBounds_toArray, List.set_cons_zero, List.set_cons_succ]
      rfl
    refine run_read (o := ?_) (v := ?_) (a' := ?_) ?_ ?_ ?_ ?_ (Ext.refl _) ?_
    rotate_left 3
    · (simp only [List.getElem?_toArray, List.getElem?_cons_succ, List.getElem?_cons_zero] <;> rfl)
    · rfl
    · intro w' hw'
      obtain ⟨hc, hf⟩ := ext_cell hw'
      clear hw'
      go_simp
      with_reducible rfl
    · simp only [Act.put, List.setIfInBounds_toArray, List.set_cons_zero, List.set_cons_succ]
      rfl
    refine run_pure (o := ?_) (v := ?_) (a' := ?_) ?_ ?_ ?_ ?_ ?_
    rotate_left 3
    · (simp only [List.getElem?_toArray, List.getElem?_cons_succ, List.getElem?_cons_zero] <;> rfl)
    · rfl
    · intro w'
      go_simp
      with_reducible rfl
    · simp only [Act.put, List.setIfInBounds_toArray, List.set_cons_zero, List.set_cons_succ]
      rfl
    refine run_pure (o := ?_) (v := ?_) (a' := ?_) ?_ ?_ ?_ ?_ ?_
    rotate_left 3
    · (simp only [List.getElem?_toArray, List.getElem?_cons_succ, List.getElem?_cons_zero] <;> rfl)
    · rfl
    · intro w'
      go_simp
      with_reducible rfl
    · simp only [Act.put, List.setIfInBounds_toArray, List.set_cons_zero, List.set_cons_succ]
      rfl
    refine run_read (o := ?_) (v := ?_) (a' := ?_) ?_ ?_ ?_ ?_ (Ext.refl _) ?_
    rotate_left 3
    · (simp only [List.getElem?_toArray, List.getElem?_cons_succ, List.getElem?_cons_zero] <;> rfl)
    · rfl
    · intro w' hw'
      obtain ⟨hc, hf⟩ := ext_cell hw'
      clear hw'
      go_simp
      with_reducible rfl
    · simp only [Act.put, List.setIfInBounds_toArray, List.set_cons_zero, List.set_cons_succ]
      rfl
    refine run_pure (o := ?_) (v := ?_) (a' := ?_) ?_ ?_ ?_ ?_ ?_
    rotate_left 3
    · (simp only [List.getElem?_toArray, List.getElem?_cons_succ, List.getElem?_cons_zero] <;> rfl)
    · rfl
    · intro w'
      go_simp
      with_reducible rfl
    · simp only [Act.put, List.setIfInBounds_toArray, List.set_cons_zero, List.set_cons_succ]
      rfl
    refine run_pure (o := ?_) (v := ?_) (a' := ?_) ?_ ?_ ?_ ?_ ?_
    rotate_left 3
    · (simp only [List.getElem?_toArray, List.getElem?_cons_succ, List.getElem?_cons_zero] <;> rfl)
    · rfl
    · intro w'
      go_simp
      with_reducible rfl
    · simp only [Act.put, List.setIfInBounds_toArray, List.set_cons_zero, List.set_cons_succ]
      rfl
    refine run_do (o := ?_) ?_ ?_ (fun a1 hx K hK => ?_)
    rotate_left
    · (simp only [List.getElem?_toArray, List.getElem?_cons_succ, List.getElem?_cons_zero] <;> rfl)
    · rfl
    have hc_a1 := (ext_cell hx).1
    have hf_a1 := (ext_cell hx).2
    have HX_a1 := Lib.hid hx
    have y_a1 := hx.size
    try simp at y_a1
    have z_a1_w_0 : w.heap.size < a1.heap.size := by omega
    have z_a1_w_1 : w.heap.size + 1 < a1.heap.size := by omega
    have z_a1_w_2 : w.heap.size + 2 < a1.heap.size := by omega
    clear hx
    go_simp
    refine hK _ _ (fun h => absurd h (by decide)) ?_
    clear hK K
    refine run_nil (fun a2 hx => ?_)
    have hc_a2 := (ext_cell hx).1
    have hf_a2 := (ext_cell hx).2
    have HX_a2 := Lib.hid hx
    have y_a2 := hx.size
    try simp at y_a2
    have z_a2_w_0 : w.heap.size < a2.heap.size := by omega
    have z_a2_w_1 : w.heap.size + 1 < a2.heap.size := by omega
    have z_a2_w_2 : w.heap.size + 2 < a2.heap.size := by omega
    clear hx
    go_wp2
    refine bodyPost_ret (v := ?_) ?_ rfl ⟨?_, ?_⟩
    rotate_left
    · simp only [results, Try.results54]
      go_simp
      with_reducible rfl
    · rfl
    · refine Ext.trans ?_ HX_a2.out
      repeat (first | with_reducible exact X0.out.trans HX_a1.out | (with_reducible refine Ext.setCell ?_ (by simp <;> omega) _))
  · obtain rfl : o = 1 := HO.out.symm
    clear HO ho1
    go_enter Try.func54, Try.ntmps54
    go_wp2_with fail
    refine (rList _ _).mono ?_
    rintro e w1 ⟨v1, rfl, hown1, hx⟩
    have hownA : OwnI w1 (w.heap.size + 1 + 1 + 1) (.slice (some ⟨w.heap.size + 1 + 1 + 1, 0, none⟩) 1 1) [(1 : Int)] := by
      have h := OwnI.ext (OwnI.lit _ (w.heap.size + 1 + 1 + 1) [(1 : Int)] (by simp) (by simp)) hx
      simpa using h
    have hc_w1 := (ext_cell hx).1
    have hf_w1 := (ext_cell hx).2
    have HX_w1 := Lib.hid hx
    have y_w1 := hx.size
    try simp at y_w1
    have z_w1_w_0 : w.heap.size < w1.heap.size := by omega
    have z_w1_w_1 : w.heap.size + 1 < w1.heap.size := by omega
    have z_w1_w_2 : w.heap.size + 2 < w1.heap.size := by omega
    have z_w1_w_3 : w.heap.size + 3 < w1.heap.size := by omega
    clear hx
    have hr1 := hown1.reads
    have hca : Cells w1 w.heap.size [.int .u64 (hi c), .int .u64 (lo c), .int .u32 k0, .int .u32 k1, .bool true] := Cells.mk5 (by go_simp <;> rfl) (by go_simp <;> rfl) (by go_simp <;> rfl) (by go_simp <;> rfl) (by go_simp <;> rfl) (by go_simp) (by go_simp) (by go_simp) (by go_simp) (by go_simp)
    have hcb : Cells w1 (w.heap.size + 1) [.int .u64 (hi n), .int .u64 (lo n)] := Cells.mk2 (by go_simp <;> rfl) (by go_simp <;> rfl) (by go_simp) (by go_simp)
    have hcc : Cells w1 (w.heap.size + 1 + 1) [.int .u64 0, .int .u64 0, .int .u32 0, .int .u32 0, .bool false] := Cells.mk5 (by go_simp <;> rfl) (by go_simp <;> rfl) (by go_simp <;> rfl) (by go_simp <;> rfl) (by go_simp <;> rfl) (by go_simp) (by go_simp) (by go_simp) (by go_simp) (by go_simp)
    have X1 : Ext w w1 := by
      refine Ext.trans ?_ HX_w1.out
      · repeat (first | with_reducible exact Ext.refl _ | with_reducible refine Ext.alloc ?_ _ | (with_reducible refine Ext.setCell ?_ (by simp <;> omega) _) | with_reducible refine Ext.drew ?_)
    have X1 := Lib.hid X1
    clear hc_w1 hf_w1 HX_w1
    go_wp2_with (at_builtin; refine wpList_appendI rfl (.tmp 12) (.tmp 15) rfl _ (w.heap.size + 1 + 1 + 1) _ _ [(1 : Int)] (listV c) rfl rfl hownA hr1 (by rw [listV_length]; simp) (by omega) ?_)
    intro v2 w2 hown2 hX2 hC2 z2
    have X2 := Lib.hid (hX2 w (by omega) X1.out)
    have hca2 := hC2 _ _ (by omega) hca
    have hcb2 := hC2 _ _ (by omega) hcb
    have hcc2 := hC2 _ _ (by omega) hcc
    replace hown2 : OwnI w2 (w.heap.size + 1 + 1 + 1) v2 (bitsN (2 * c.toNat + 1) 129) := HX.out ▸ hown2
    have HR2 := Lib.hid hown2.reads
    clear hX2 hC2 hca hcb hcc hown1 hr1 hownA hown2 X1
    obtain ⟨p0, p1, pf0, pf1⟩ := hcb2.two
    have zz2 : w.heap.size + 1 + 1 + 1 < w2.heap.size := by omega
    have zz3 : w.heap.size + 1 < w2.heap.size := by omega
    go_wp2_with fail
    refine (rList _ _).mono ?_
    rintro e w3 ⟨v3, rfl, hown3, hx⟩
    have hownB : OwnI w3 w2.heap.size (.slice (some ⟨w2.heap.size, 0, none⟩) 0 0) [] := by
      have h := OwnI.ext (OwnI.lit _ w2.heap.size [] (by simp) (by simp)) hx
      simpa using h
    have X3 := Lib.hid (((Ext.refl w2).alloc _).trans hx)
    have hr3 := hown3.reads
    have z3 := X3.out.size
    clear hx hown3
    go_wp2_with (at_builtin; refine wpList_appendI rfl (.tmp 17) (.tmp 19) rfl _ w2.heap.size _ _ [] (listV n) rfl rfl hownB hr3 (by rw [listV_length]; simp) (by omega) ?_)
    intro v4 w4 hown4 hX4 hC4 z4
    have X4 := Lib.hid (hX4 w2 (by omega) X3.out)
    clear hX4 hC4 hownB hr3 X3
    have hown5 := hown4.ext ((Ext.refl w4).alloc (.cells #[.int .i64 0] 3))
    clear hown4
    go_wp2_with (at_builtin; refine wpList_appendI rfl (.tmp 20) (.tmp 21) rfl _ w2.heap.size _ _ (listV n) [0] rfl rfl hown5 (reads_one _ _) (by rw [listV_length]; simp) (by simp; omega) ?_)
    intro v6 w6 hown6 hX6 hC6 z6
    have X6 := Lib.hid (hX6 w2 (by omega) (X4.out.alloc _))
    rw [HY.out] at hown6
    have HR6 := Lib.hid hown6.reads
    clear hX6 hC6 hown5 hown6 X4
    have HS := Lib.hid (rSum (2 * c.toNat + 1) n.toNat 129 (by have := c.isLt; omega) (by have := n.isLt; omega) (by omega) v2 v6 w6 (HR2.out.ext X6.out) HR6.out)
    go_wp2_with fail
    refine HS.out.mono ?_
    rintro e w7 ⟨v7, rfl, hown7, hx⟩
    rw [HT.out] at hown7
    have hL := bitsN_length T 130
    obtain ⟨g, cap, rfl, hg, hg2, hcap, hcm, hcell⟩ := own_form hown7 (by rw [hL]; omega)
    have hhead := hcell 0 (by rw [hL]; omega)
    have HH0 : (bitsN T 130)[0]'(by rw [hL]; omega) = t := by
      have h0 := HT0.out
      rw [List.getElem?_eq_getElem (by rw [hL]; omega)] at h0
      rw [← HTT.out]
      exact h0
    rw [HH0] at hhead
    have HRA := Lib.hid (readsAt_mid (cap := cap - 1) (i := 1) (m := 128) (by rw [hL]; omega) hcell)
    rw [hL] at hcap ⊢
    have HOf := Lib.hid fun w' (x : Ext w7 w') => rOfO _ _ w' (HRA.out.ext x) (fun y hy => bitsN_bounds T 130 y (List.mem_of_mem_drop (List.mem_of_mem_take hy))) (by rw [List.length_take]; omega)
    have hval : ofBits (((bitsN T 130).drop 1).take 128) = d := by
      rw [bitsN_mid T 130 128 1 (by omega), ofBits_bitsN, Nat.pow_one]
      exact H1.out
    have HV := Lib.hid hval
    rw [HV.out] at HOf
    clear hval hcell HRA hown7 HT0 HH0 hL
    have X7 := Lib.hid (X6.out.trans hx)
    have hca7 := hca2.ext X7.out
    have hcc7 := hcc2.ext X7.out
    have X0 := Lib.hid (X2.out.trans X7.out)
    obtain ⟨a0, a1, a2, a3, a4, af0, af1, af2, af3, af4⟩ := hca7.five
    obtain ⟨r0, r1, r2, r3, r4, rf0, rf1, rf2, rf3, rf4⟩ := hcc7.five
    have z7 := X7.out.size
    have zz7 : w.heap.size + 1 + 1 < w7.heap.size := by omega
    have zz8 : w.heap.size < w7.heap.size := by omega
    have hcap' : (129 : Int) ≤ cap := by omega
    have hcap1 : ¬ cap = 1 := by omega
    clear hca2 hcb2 hcc2 hca7 hcc7 hx HS HR2 HR6 X6 X2 p0 p1 pf0 pf1
    try dsimp only
    repeat (first | with_reducible refine wp_region_ext ?_ [(0, 0), (1, 0), (2, 1), (3, 0), (4, 1), (5, 0), (6, 0), (7, 1), (8, 0), (9, 0), (10, 2)] (fun i => !(i == 10)) ?_ ?_ ?_ ?_ ?_ | go_step)
    · kernel_rfl
    · kernel_rfl
    · kernel_rfl
    · kernel_rfl
    · exact (fun _ _ d _ _ h => by cases d <;> exact h)
    refine run_pure (o := ?_) (v := ?_) (a' := ?_) ?_ ?_ ?_ ?_ ?_
    rotate_left 3
    · (simp only [List.getElem?_toArray, List.getElem?_cons_succ, List.getElem?_cons_zero] <;> rfl)
    · rfl
    · intro w'
      go_simp
      with_reducible rfl
    · simp only [Act.put, List.setIfInBounds_toArray, List.set_cons_zero, List.set_cons_succ]
      rfl
    refine run_pure (o := ?_) (v := ?_) (a' := ?_) ?_ ?_ ?_ ?_ ?_
    rotate_left 3
    · (simp only [List.getElem?_toArray, List.getElem?_cons_succ, List.getElem?_cons_zero] <;> rfl)
    · rfl
    · intro w'
      go_simp
      with_reducible rfl
    · simp only [Act.put, List.setIfInBounds_toArray, List.set_cons_zero, List.set_cons_succ]
      rfl
    refine run_call (f := 83) (args := ?_) (o := ?_) (v := ?_) (a' := ?_) ?_ ?_ ?_ ?_ ?_ (Ext.refl _) ?_
    rotate_left 4
    · (simp only [List.getElem?_toArray, List.getElem?_cons_succ, List.getElem?_cons_zero] <;> rfl)
    · rfl
    · intro w'
      go_simp
      with_reducible rfl
    · intro w' hw'
      exact (HOf.out _ hw')
    · simp only [Act.put, List.setIfInBounds_toArray, List.set_cons_zero, List.set_cons_succ]
      rfl
    refine run_pure (o := ?_) (v := ?_) (a' := ?_) ?_ ?_ ?_ ?_ ?_
    rotate_left 3
    · (simp only [List.getElem?_toArray, List.getElem?_cons_succ, List.getElem?_cons_zero] <;> rfl)
    · rfl
    · intro w'
      go_simp
      with_reducible rfl
    · simp only [Act.put, List.setIfInBounds_toArray, List.set_cons_zero, List.set_cons_succ]
      rfl
    refine run_read (o := ?_) (v := ?_) (a' := ?_) ?_ ?_ ?_ ?_ (Ext.refl _) ?_
    rotate_left 3
    · (simp only [List.getElem?_toArray, List.getElem?_cons_succ, List.getElem?_cons_zero] <;> rfl)
    · rfl
    · intro w' hw'
      obtain ⟨hc, hf⟩ := ext_cell hw'
      clear hw'
      go_simp
      with_reducible rfl
    · simp only [Act.put, List.setIfInBounds_toArray, List.set_cons_zero, List.set_cons_succ]
      rfl
    refine run_pure (o := ?_) (v := ?_) (a' := ?_) ?_ ?_ ?_ ?_ ?_
    rotate_left 3
    · (simp only [List.getElem?_toArray, List.getElem?_cons_succ, List.getElem?_cons_zero] <;> rfl)
    · rfl
    · intro w'
      go_simp
      with_reducible rfl
    · simp only [Act.put, List.setIfInBounds_toArray, List.set_cons_zero, List.set_cons_succ]
      rfl
    refine run_pure (o := ?_) (v := ?_) (a' := ?_) ?_ ?_ ?_ ?_ ?_
    rotate_left 3
    · (simp only [List.getElem?_toArray, List.getElem?_cons_succ, List.getElem?_cons_zero] <;> rfl)
    · rfl
    · intro w'
      go_simp
      with_reducible rfl
    · simp only [Act.put, List.setIfInBounds_toArray, List.set_cons_zero, List.set_cons_succ]
      rfl
    refine run_read (o := ?_) (v := ?_) (a' := ?_) ?_ ?_ ?_ ?_ (Ext.refl _) ?_
    rotate_left 3
    · (simp only [List.getElem?_toArray, List.getElem?_cons_succ, List.getElem?_cons_zero] <;> rfl)
    · rfl
    · intro w' hw'
      obtain ⟨hc, hf⟩ := ext_cell hw'
      clear hw'
      go_simp
      with_reducible rfl
    · simp only [Act.put, List.setIfInBounds_toArray, List.set_cons_zero, List.set_cons_succ]
      rfl
    refine run_pure (o := ?_) (v := ?_) (a' := ?_) ?_ ?_ ?_ ?_ ?_
    rotate_left 3
    · (simp only [List.getElem?_toArray, List.getElem?_cons_succ, List.getElem?_cons_zero] <;> rfl)
    · rfl
    · intro w'
      go_simp
      with_reducible rfl
    · simp only [Act.put, List.setIfInBounds_toArray, List.set_cons_zero, List.set_cons_succ]
      rfl
    refine run_pure (o := ?_) (v := ?_) (a' := ?_) ?_ ?_ ?_ ?_ ?_
    rotate_left 3
    · (simp only [List.getElem?_toArray, List.getElem?_cons_succ, List.getElem?_cons_zero] <;> rfl)
    · rfl
    · intro w'
      go_simp
      with_reducible rfl
    · simp only [Act.put, List.setIfInBounds_toArray, List.set_cons_zero, List.set_cons_succ]
      rfl
    refine run_do (o := ?_) ?_ ?_ (fun a1 hx K hK => ?_)
    rotate_left
    · (simp only [List.getElem?_toArray, List.getElem?_cons_succ, List.getElem?_cons_zero] <;> rfl)
    · rfl
    have hc_a1 := (ext_cell hx).1
    have hf_a1 := (ext_cell hx).2
    have HX_a1 := Lib.hid hx
    have y_a1 := hx.size
    try simp at y_a1
    have z_a1_w_0 : w.heap.size < a1.heap.size := by omega
    have z_a1_w_1 : w.heap.size + 1 < a1.heap.size := by omega
    have z_a1_w_2 : w.heap.size + 2 < a1.heap.size := by omega
    clear hx
    go_simp
    refine hK _ _ (fun h => absurd h (by decide)) ?_
    clear hK K
    refine run_nil (fun a2 hx => ?_)
    have hc_a2 := (ext_cell hx).1
    have hf_a2 := (ext_cell hx).2
    have HX_a2 := Lib.hid hx
    have y_a2 := hx.size
    try simp at y_a2
    have z_a2_w_0 : w.heap.size < a2.heap.size := by omega
    have z_a2_w_1 : w.heap.size + 1 < a2.heap.size := by omega
    have z_a2_w_2 : w.heap.size + 2 < a2.heap.size := by omega
    clear hx
    go_wp2
    refine bodyPost_ret (v := ?_) ?_ rfl ⟨?_, ?_⟩
    rotate_left
    · simp only [results, Try.results54]
      go_simp
      with_reducible rfl
    · rfl
    · refine Ext.trans ?_ HX_a2.out
      repeat (first | with_reducible exact X0.out.trans HX_a1.out | (with_reducible refine Ext.setCell ?_ (by simp <;> omega) _))
end Go.Proofs.Ytjjapblpmpidcaa
