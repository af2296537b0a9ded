import Derived.Test.YtjjapblpmpidcaaH9
set_option linter.unusedVariables false
set_option linter.unusedSimpArgs false
namespace Go.Proofs.Ytjjapblpmpidcaa
open Go.RowKit Num UReg

/-! ### half.Words -/
def hws (c : V) (k : Ky) (b : Bool) (n : Nat) : List Int := (List.range n).map fun j => wordH (jumpC c b j).1 k (jumpC c b j).2
theorem hws_length (c : V) (k : Ky) (b : Bool) (n : Nat) : (hws c k b n).length = n := by simp [hws]
theorem hws_succ (c : V) (k : Ky) (b : Bool) (n : Nat) : hws c k b (n + 1) = hws c k b n ++ [wordH (jumpC c b n).1 k (jumpC c b n).2] := by simp [hws, List.range_succ]
abbrev sCells (s : V × Bool) (k0 k1 : Int) : List Value := [.int .u64 (hi s.1), .int .u64 (lo s.1), .int .u32 k0, .int .u32 k1, .bool s.2]
set_option maxHeartbeats 1000000 in
theorem hWords_bad (c : V) (k0 k1 n : Int) (b : Bool) (hn : n < 0 ∨ 256 < n) (w : World) : Calls Try.prog 46 #[.agg #[.int .u64 (hi c), .int .u64 (lo c), .int .u32 k0, .int .u32 k1, .bool b], .int .i64 n] w fun e w' => e = .returned (.tuple #[.slice none 0 0, .agg #[.int .u64 0, .int .u64 0, .int .u32 0, .int .u32 0, .bool false], .int .i64 1]) ∧ Ext w w' := by
  rcases hn with h | h
  · have t1 : decide (n < 0) = true := decide_eq_true h
    go_enter Try.func46, Try.ntmps46
    go_wp2_with fail
    refine bodyPost_ret (v := ?_) ?_ rfl ⟨?_, ?_⟩
    rotate_left
    · simp only [results, Try.results46]
      go_simp
      with_reducible rfl
    · rfl
    · repeat (first | with_reducible exact Ext.refl _ | with_reducible refine Ext.alloc ?_ _ | (with_reducible refine Ext.setCell ?_ (by simp <;> omega) _) | with_reducible refine Ext.drew ?_)
  · have t1 : decide (n < 0) = false := decide_eq_false (by omega)
    have t2 : decide (256 < n) = true := decide_eq_true h
    go_enter Try.func46, Try.ntmps46
    go_wp2_with fail
    refine bodyPost_ret (v := ?_) ?_ rfl ⟨?_, ?_⟩
    rotate_left
    · simp only [results, Try.results46]
      go_simp
      with_reducible rfl
    · rfl
    · repeat (first | with_reducible exact Ext.refl _ | with_reducible refine Ext.alloc ?_ _ | (with_reducible refine Ext.setCell ?_ (by simp <;> omega) _) | with_reducible refine Ext.drew ?_)
set_option maxHeartbeats 4000000 in
theorem hWords_ok (c : V) (k0 k1 : Int) (b : Bool) (hk : WK (k0, k1)) (n : Nat) (hn : n ≤ 256) (w : World) : Calls Try.prog 46 #[.agg #[.int .u64 (hi c), .int .u64 (lo c), .int .u32 k0, .int .u32 k1, .bool b], .int .i64 n] w fun e w' =>
    ∃ v, e = .returned (.tuple #[v, .agg #[.int .u64 (hi (jumpC c b n).1), .int .u64 (lo (jumpC c b n).1), .int .u32 k0, .int .u32 k1, .bool (jumpC c b n).2], .int .i64 0]) ∧ Reads w' .u64 v (hws c (k0, k1) b n) ∧ Ext w w' := by
  have t1 : decide ((n : Int) < 0) = false := decide_eq_false (by omega)
  have t2 : decide (256 < (n : Int)) = false := decide_eq_false (by omega)
  have HWK := Lib.hid hk; clear hk
  obtain ⟨⟨dn, en⟩, hdn⟩ : ∃ t, jumpC c b n = t := ⟨_, rfl⟩
  rw [hdn]
  have HDN := Lib.hid hdn; clear hdn
  go_enter Try.func46, Try.ntmps46
  go_wp2_with fail
  go_loopw [7, 16] (fun v jv wr => ∃ i : Nat, i ≤ n ∧ jv = .int .i64 i ∧ Ext w wr ∧ w.heap.size + 2 ≤ wr.heap.size ∧ OwnK .u64 26 wr (w.heap.size + 2) v (hws c (k0, k1) b i)
      ∧ Cells wr w.heap.size (sCells (jumpC c b i) k0 k1) ∧ Cells wr (w.heap.size + 1) [.int .u64 0, .int .u64 0, .int .u32 0, .int .u32 0, .bool false])
    (fun _ jv _ => n - (intOf jv).toNat)
  case atStart =>
    refine ⟨0, by omega, rfl, ?_, by simp, OwnK.nil _ _ _ _, ?_, ?_⟩
    · repeat (first | with_reducible exact Ext.refl _ | with_reducible refine Ext.alloc ?_ _ | (with_reducible refine Ext.setCell ?_ (by simp <;> omega) _) | with_reducible refine Ext.drew ?_)
    · exact Cells.mk5 (by go_simp <;> rfl) (by go_simp <;> rfl) (by go_simp <;> rfl) (by go_simp <;> rfl) (by go_simp <;> rfl) (by go_simp) (by go_simp) (by go_simp) (by go_simp) (by go_simp)
    · exact Cells.mk5 (by go_simp <;> rfl) (by go_simp <;> rfl) (by go_simp <;> rfl) (by go_simp <;> rfl) (by go_simp <;> rfl) (by go_simp) (by go_simp) (by go_simp) (by go_simp) (by go_simp)
  case round =>
    obtain ⟨i, hi', rfl, HX, z1, hown, hs, hr⟩ := hrel
    have HX_r := Lib.hid HX; clear HX
    have z_0 : w.heap.size < wr.heap.size := by omega
    have z_1 : w.heap.size + 1 < wr.heap.size := by omega
    by_cases hlt : i < n
    · obtain ⟨⟨d, e⟩, hd⟩ : ∃ t, jumpC c b i = t := ⟨_, rfl⟩
      have hlt' : (i : Int) < (n : Int) := by omega
      obtain ⟨x, hx0⟩ : ∃ x, wordH d (k0, k1) e = x := ⟨_, rfl⟩
      obtain ⟨d', hd'⟩ : ∃ x, stepC d e = x := ⟨_, rfl⟩
      obtain ⟨e', he'⟩ : ∃ x, (!e) = x := ⟨_, rfl⟩
      have HNX := Lib.hid (show jumpC c b (i + 1) = (d', e') by rw [jumpC, hd]; simp only; rw [hd', he'])
      have HWS := Lib.hid (show hws c (k0, k1) b (i + 1) = hws c (k0, k1) b i ++ [x] by rw [hws_succ, hd, hx0])
      have HW := Lib.hid (hWord HWK.out hx0)
      have HS := Lib.hid (hStep hd' he' k0 k1)
      have HLn := Lib.hid (hws_length c (k0, k1) b i)
      rw [hd] at hs
      have HO := Lib.hid hown; clear hown
      clear hx0 hd' he' hd
      obtain ⟨s0, s1, s2, s3, s4, sf0, sf1, sf2, sf3, sf4⟩ := hs.five
      simp only at s0 s1 s4
      go_wp2_with fail
      refine (HW.out _).mono ?_
      rintro e w2 ⟨rfl, hx⟩
      have hX := hx.alloc (.cells #[.int .u64 x] 26)
      have hown2 := HO.out.ext hX
      have hs2 := hs.ext hX
      have hr2 := hr.ext hX
      have X2 := Lib.hid (HX_r.out.trans hX)
      have y2 := hx.size
      have HZ := Lib.hid (show w.heap.size + 2 ≤ (w2.alloc (.cells #[.int .u64 x] 26)).heap.size by simp; omega)
      clear hx hX hs hr s0 s1 s2 s3 s4 sf0 sf1 sf2 sf3 sf4
      go_wp2_with (at_builtin; refine wpList_appendK (k := .u64) (bytes := 8) Try.underlying89 (by kernel_rfl) (by decide) rfl (.tmp 18) (.tmp 21) rfl _ (w.heap.size + 2) _ _ (hws c (k0, k1) b i) [x] rfl rfl hown2 (reads_oneK _ _ _ _) (by rw [HLn.out]; simp; omega) HZ.out ?_)
      intro v' w3 hown3 hg3
      have hb0 : u7.ownBlock ≠ some w.heap.size := fun e => by have := hown2.ge _ e; omega
      have hb1 : u7.ownBlock ≠ some (w.heap.size + 1) := fun e => by have := hown2.ge _ e; omega
      have hs3 := hg3.cells hb0 hs2
      have hr3 := hg3.cells hb1 hr2
      have X3 := Lib.hid (hg3.ext X2.out (fun g hg => by have := hown2.ge _ hg; omega))
      have z3 := hg3.size
      simp at z3
      have HO3 := Lib.hid hown3
      clear hg3 hs2 hr2 hown2 hown3 hb0 hb1
      obtain ⟨s0, s1, s2, s3, s4, sf0, sf1, sf2, sf3, sf4⟩ := hs3.five
      simp only at s0 s1 s4
      go_wp2_with fail
      refine (HS.out _).mono ?_
      rintro e w4 ⟨rfl, hx⟩
      have hs4 := hs3.ext hx
      have hr4 := hr3.ext hx
      have hown4 := HO3.out.ext hx
      have y4 := hx.size
      have X4 := Lib.hid (X3.out.trans hx)
      have HO4 := Lib.hid hown4
      clear hx hs3 hr3 hown4 s0 s1 s2 s3 s4 sf0 sf1 sf2 sf3 sf4
      obtain ⟨s0, s1, s2, s3, s4, sf0, sf1, sf2, sf3, sf4⟩ := hs4.five
      go_wp2_with fail
      go_roundw
      case rel =>
        refine ⟨i + 1, by omega, by simp, ?_, by simp; omega, ?_, ?_, ?_⟩
        · repeat (first | with_reducible exact X4.out | (with_reducible refine Ext.setCell ?_ (by simp <;> omega) _))
        · rw [HWS.out]
          exact own_set (own_set (own_set (own_set (own_set HO4.out (by simp) _) (by simp) _) (by simp) _) (by simp) _) (by simp) _
        · rw [HNX.out]
          exact ((((hs4.set 0 _).set 1 _).set 2 _).set 3 _).set 4 _
        · exact ((((hr4.other (by omega) _ _).other (by omega) _ _).other (by omega) _ _).other (by omega) _ _).other (by omega) _ _
      case measure => simp [intOf]; omega
    · obtain rfl : i = n := by omega
      rw [HDN.out] at hs
      obtain ⟨s0, s1, s2, s3, s4, sf0, sf1, sf2, sf3, sf4⟩ := hs.five
      obtain ⟨r0, r1, r2, r3, r4, rf0, rf1, rf2, rf3, rf4⟩ := hr.five
      have HO := Lib.hid hown
      simp only at s0 s1 s4
      clear hs hr hown
      try dsimp only
      repeat (first | with_reducible refine wp_region_ext ?_ [(0, 0), (1, 1), (2, 0), (3, 2), (4, 0)] (fun i => !(i == 3)) ?_ ?_ ?_ ?_ ?_ | go_step)
      · kernel_rfl
      · kernel_rfl
      · kernel_rfl
      · kernel_rfl
      · exact (fun _ _ d _ _ h => by cases d <;> exact h)
      refine run_pure (o := ?_) (v := ?_) (a' := ?_) ?_ ?_ ?_ ?_ ?_
      rotate_left 3
      · (simp only [List.getElem?_toArray, List.getElem?_cons_succ, List.getElem?_cons_zero] <;> rfl)
      · rfl
      · intro w'
        go_simp
        with_reducible rfl
      · simp only [Act.put, List.setIfInBounds_toArray, List.set_cons_zero, List.set_cons_succ]
        rfl
      refine run_read (o := ?_) (v := ?_) (a' := ?_) ?_ ?_ ?_ ?_ (Ext.refl _) ?_
      rotate_left 3
      · (simp only [List.getElem?_toArray, List.getElem?_cons_succ, List.getElem?_cons_zero] <;> rfl)
      · rfl
      · intro w' hw'
        obtain ⟨hc, hf⟩ := ext_cell hw'
        clear hw'
        go_simp
        with_reducible rfl
      · simp only [Act.put, List.setIfInBounds_toArray, List.set_cons_zero, List.set_cons_succ]
        rfl
      refine run_pure (o := ?_) (v := ?_) (a' := ?_) ?_ ?_ ?_ ?_ ?_
      rotate_left 3
      · (simp only [List.getElem?_toArray, List.getElem?_cons_succ, List.getElem?_cons_zero] <;> rfl)
      · rfl
      · intro w'
        go_simp
        with_reducible rfl
      · simp only [Act.put, List.setIfInBounds_toArray, List.set_cons_zero, List.set_cons_succ]
        rfl
      refine run_do (o := ?_) ?_ ?_ (fun d1 hx K hK => ?_)
      rotate_left
      · (simp only [List.getElem?_toArray, List.getElem?_cons_succ, List.getElem?_cons_zero] <;> rfl)
      · rfl
      have hc_d1 := (ext_cell hx).1
      have hf_d1 := (ext_cell hx).2
      have HX_d1 := Lib.hid hx
      have y_d1 := hx.size
      try simp at y_d1
      have z_d1_w_0 : w.heap.size < d1.heap.size := by omega
      have z_d1_w_1 : w.heap.size + 1 < d1.heap.size := by omega
      clear hx
      go_simp
      refine hK _ _ (fun h => absurd h (by decide)) ?_
      clear hK K
      refine run_pure (o := ?_) (v := ?_) (a' := ?_) ?_ ?_ ?_ ?_ ?_
      rotate_left 3
      · (simp only [List.getElem?_toArray, List.getElem?_cons_succ, List.getElem?_cons_zero] <;> rfl)
      · rfl
      · intro w'
        go_simp
        with_reducible rfl
      · simp only [Act.put, List.setIfInBounds_toArray, List.set_cons_zero, List.set_cons_succ]
        rfl
      refine run_nil (fun d2 hx => ?_)
      have hc_d2 := (ext_cell hx).1
      have hf_d2 := (ext_cell hx).2
      have HX_d2 := Lib.hid hx
      have y_d2 := hx.size
      try simp at y_d2
      have z_d2_w_0 : w.heap.size < d2.heap.size := by omega
      have z_d2_w_1 : w.heap.size + 1 < d2.heap.size := by omega
      clear hx
      go_wp2
      refine bodyPost_ret (v := ?_) ?_ rfl ⟨u7, ?_, ?_, ?_⟩
      rotate_left
      · simp only [results, Try.results46]
        go_simp
        with_reducible rfl
      · rfl
      · refine OwnK.reads (e := 26) (base := w.heap.size + 2) ?_
        have h0 : OwnK .u64 26 d1 (w.heap.size + 2) u7 (hws c (k0, k1) b i) := HO.out.ext HX_d1.out
        refine OwnK.ext ?_ HX_d2.out
        exact own_set (own_set (own_set (own_set (own_set h0 (by simp) _) (by simp) _) (by simp) _) (by simp) _) (by simp) _
      · repeat (first | with_reducible exact HX_r.out | (with_reducible refine Ext.setCell ?_ (by simp <;> omega) _) | with_reducible refine Ext.trans ?_ HX_d2.out | with_reducible refine Ext.trans ?_ HX_d1.out)
end Go.Proofs.Ytjjapblpmpidcaa
