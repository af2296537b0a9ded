import Derived.Test.YtjjapblpmpidcabW3
import Derived.Test.YtjjapblpmpidcabV
import Derived.OwnWalk
import Derived.Laws.AppendOwn
set_option linter.unusedVariables false
set_option linter.unusedSimpArgs false
namespace Go.Proofs.Ytjjapblpmpidcab
open Go.RowKit Num UReg

/-! ### words of pcg -/
/-- A state's word. -/
def wordP (s : V) : Int :=
  IntKind.u64.wrap (bits BinOp.xor IntKind.u64 (IntKind.u64.wrap (bits BinOp.xor IntKind.u64 (hi s) (hi s / 4294967296) * 15750249268501108917))
    (IntKind.u64.wrap (bits BinOp.xor IntKind.u64 (hi s) (hi s / 4294967296) * 15750249268501108917) / 281474976710656) * bits BinOp.or IntKind.u64 (lo s) 1)
theorem pWord (s i : V) (w : World) : Calls Try.prog 13 #[.agg #[.int .u64 (hi s), .int .u64 (lo s), .int .u64 (hi i), .int .u64 (lo i)]] w fun e w' =>
    e = .returned (.int .u64 (wordP s)) ∧ Ext w w' := by
  obtain ⟨h1, h2⟩ := word_hi s
  obtain ⟨l1, l2⟩ := word_lo s
  go_enter Try.func13, Try.ntmps13
  go_wp2
  go_region
  go_wp2
  go_ret
  exact ⟨rfl, ((Ext.refl _).alloc _).drew⟩
def pst (s i : V) : Nat → V
  | 0 => s
  | k + 1 => fac * pst s i k + i
def pws (s i : V) (k : Nat) : List Int := (List.range k).map fun j => wordP (pst s i j)
theorem pws_length (s i : V) (k : Nat) : (pws s i k).length = k := by simp [pws]
theorem pws_succ (s i : V) (k : Nat) : pws s i (k + 1) = pws s i k ++ [wordP (pst s i k)] := by simp [pws, List.range_succ]

theorem pWords_bad (s i : V) (n : Int) (hi' : i.toNat % 2 = 0) (w : World) : Calls Try.prog 19 #[.agg #[.int .u64 (hi s), .int .u64 (lo s), .int .u64 (hi i), .int .u64 (lo i)], .int .i64 n] w fun e w' =>
    e = .returned (.tuple #[.slice none 0 0, .agg #[.int .u64 0, .int .u64 0, .int .u64 0, .int .u64 0], .int .i64 3]) ∧ Ext w w' := by
  have hb : decide (i.toNat % 2 = 1) = false := by simp [hi']
  go_enter Try.func19, Try.ntmps19
  go_wp2_with fail
  refine (pRight _ _ _).mono ?_
  rintro e w1 ⟨rfl, hx⟩
  rw [hb]
  have hc_w1 := (ext_cell hx).1
  have hf_w1 := (ext_cell hx).2
  have HX_w1 := Lib.hid hx
  have y_w1 := hx.size
  try simp at y_w1
  have z_w1_w_0 : w.heap.size < w1.heap.size := by omega
  have z_w1_w_1 : w.heap.size + 1 < w1.heap.size := by omega
  clear hx
  go_wp2
  refine bodyPost_ret (v := ?_) ?_ rfl ⟨?_, ?_⟩
  rotate_left
  · simp only [results, Try.results19]
    go_simp
    with_reducible rfl
  · rfl
  · repeat (first | exact Ext.refl _ | refine Ext.alloc ?_ _ | (refine Ext.setCell ?_ (by simp <;> omega) _) | refine Ext.drew ?_ | refine Ext.trans ?_ HX_w1.out)
set_option maxHeartbeats 1000000 in
theorem pWords_neg (s i : V) (n : Int) (hi' : i.toNat % 2 = 1) (hn : n < 0) (w : World) : Calls Try.prog 19 #[.agg #[.int .u64 (hi s), .int .u64 (lo s), .int .u64 (hi i), .int .u64 (lo i)], .int .i64 n] w fun e w' =>
    e = .returned (.tuple #[.slice none 0 0, .agg #[.int .u64 0, .int .u64 0, .int .u64 0, .int .u64 0], .int .i64 1]) ∧ Ext w w' := by
  have hb : decide (i.toNat % 2 = 1) = true := by simp [hi']
  go_enter Try.func19, Try.ntmps19
  go_wp2_with fail
  refine (pRight _ _ _).mono ?_
  rintro e w1 ⟨rfl, hx⟩
  rw [hb]
  have hc_w1 := (ext_cell hx).1
  have hf_w1 := (ext_cell hx).2
  have HX_w1 := Lib.hid hx
  have y_w1 := hx.size
  try simp at y_w1
  have z_w1_w_0 : w.heap.size < w1.heap.size := by omega
  have z_w1_w_1 : w.heap.size + 1 < w1.heap.size := by omega
  clear hx
  clear hb
  go_wp2
  refine bodyPost_ret (v := ?_) ?_ rfl ⟨?_, ?_⟩
  rotate_left
  · simp only [results, Try.results19]
    go_simp
    with_reducible rfl
  · rfl
  · repeat (first | exact Ext.refl _ | refine Ext.alloc ?_ _ | (refine Ext.setCell ?_ (by simp <;> omega) _) | refine Ext.drew ?_ | refine Ext.trans ?_ HX_w1.out)
set_option maxHeartbeats 1000000 in
theorem pWords_many (s i : V) (n : Int) (hi' : i.toNat % 2 = 1) (hn : 256 < n) (w : World) : Calls Try.prog 19 #[.agg #[.int .u64 (hi s), .int .u64 (lo s), .int .u64 (hi i), .int .u64 (lo i)], .int .i64 n] w fun e w' =>
    e = .returned (.tuple #[.slice none 0 0, .agg #[.int .u64 0, .int .u64 0, .int .u64 0, .int .u64 0], .int .i64 1]) ∧ Ext w w' := by
  have hb : decide (i.toNat % 2 = 1) = true := by simp [hi']
  have t1 : decide (n < 0) = false := decide_eq_false (by omega)
  have t2 : decide (256 < n) = true := decide_eq_true (by omega)
  go_enter Try.func19, Try.ntmps19
  go_wp2_with fail
  refine (pRight _ _ _).mono ?_
  rintro e w1 ⟨rfl, hx⟩
  rw [hb]
  have hc_w1 := (ext_cell hx).1
  have hf_w1 := (ext_cell hx).2
  have HX_w1 := Lib.hid hx
  have y_w1 := hx.size
  try simp at y_w1
  have z_w1_w_0 : w.heap.size < w1.heap.size := by omega
  have z_w1_w_1 : w.heap.size + 1 < w1.heap.size := by omega
  clear hx
  clear hb
  go_wp2
  refine bodyPost_ret (v := ?_) ?_ rfl ⟨?_, ?_⟩
  rotate_left
  · simp only [results, Try.results19]
    go_simp
    with_reducible rfl
  · rfl
  · repeat (first | exact Ext.refl _ | refine Ext.alloc ?_ _ | (refine Ext.setCell ?_ (by simp <;> omega) _) | refine Ext.drew ?_ | refine Ext.trans ?_ HX_w1.out)

set_option maxHeartbeats 2000000 in
theorem pWords_ok (s i : V) (n : Nat) (hi' : i.toNat % 2 = 1) (hn : n ≤ 256) (w : World) : Calls Try.prog 19 #[.agg #[.int .u64 (hi s), .int .u64 (lo s), .int .u64 (hi i), .int .u64 (lo i)], .int .i64 n] w fun e w' =>
    ∃ v, e = .returned (.tuple #[v, .agg #[.int .u64 (hi (pst s i n)), .int .u64 (lo (pst s i n)), .int .u64 (hi i), .int .u64 (lo i)], .int .i64 0]) ∧ Reads w' .u64 v (pws s i n) ∧ Ext w w' := by
  have hb : decide (i.toNat % 2 = 1) = true := by simp [hi']
  have info : (Try.prog.info? 22).map (fun i => (i.zero, i.size, i.bytes)) = some (some (.int .u64 0), 1, 8) := by kernel_rfl
  obtain ⟨i0, hinfo, hz0, hz1, hz2⟩ := info_parts info
  clear info
  have Hinfo := Lib.hid hinfo; clear hinfo
  have Hz0 := Lib.hid hz0; clear hz0
  have Hz1 := Lib.hid hz1; clear hz1
  have Hz2 := Lib.hid hz2; clear hz2
  go_enter Try.func19, Try.ntmps19
  go_wp2_with fail
  refine (pRight _ _ _).mono ?_
  rintro e w1 ⟨rfl, hx⟩
  rw [hb]
  have hc_w1 := (ext_cell hx).1
  have hf_w1 := (ext_cell hx).2
  have HX_w1 := Lib.hid hx
  have y_w1 := hx.size
  try simp at y_w1
  have z_w1_w_0 : w.heap.size < w1.heap.size := by omega
  have z_w1_w_1 : w.heap.size + 1 < w1.heap.size := by omega
  clear hx
  clear hb
  have t1 : decide ((n : Int) < 0) = false := decide_eq_false (by omega)
  have t2 : decide (256 < (n : Int)) = false := decide_eq_false (by omega)
  try dsimp only
  repeat (first | with_reducible refine wp_region_in [(0, 0), (1, 0), (2, 0), (3, 0), (4, 0), (5, 0), (6, 0)] (fun _ => true) ?_ ?_ ?_ | go_step)
  · rfl
  · rfl
  refine run_pure (o := ?_) (v := ?_) (a' := ?_) ?_ ?_ ?_ ?_ ?_
  rotate_left 3
  · (simp only [List.getElem?_toArray, List.getElem?_cons_succ, List.getElem?_cons_zero] <;> rfl)
  · rfl
  · intro w'
    go_simp
    with_reducible rfl
  · simp only [Act.put, List.setIfInBounds_toArray, List.set_cons_zero, List.set_cons_succ]
    rfl
  refine run_pure (o := ?_) (v := ?_) (a' := ?_) ?_ ?_ ?_ ?_ ?_
  rotate_left 3
  · (simp only [List.getElem?_toArray, List.getElem?_cons_succ, List.getElem?_cons_zero] <;> rfl)
  · rfl
  · intro w'
    go_simp
    with_reducible rfl
  · simp only [Act.put, List.setIfInBounds_toArray, List.set_cons_zero, List.set_cons_succ]
    rfl
  refine run_pure (o := ?_) (v := ?_) (a' := ?_) ?_ ?_ ?_ ?_ ?_
  rotate_left 3
  · (simp only [List.getElem?_toArray, List.getElem?_cons_succ, List.getElem?_cons_zero] <;> rfl)
  · rfl
  · intro w'
    go_simp
    with_reducible rfl
  · simp only [Act.put, List.setIfInBounds_toArray, List.set_cons_zero, List.set_cons_succ]
    rfl
  refine run_pure (o := ?_) (v := ?_) (a' := ?_) ?_ ?_ ?_ ?_ ?_
  rotate_left 3
  · (simp only [List.getElem?_toArray, List.getElem?_cons_succ, List.getElem?_cons_zero] <;> rfl)
  · rfl
  · intro w'
    go_simp
    with_reducible rfl
  · simp only [Act.put, List.setIfInBounds_toArray, List.set_cons_zero, List.set_cons_succ]
    rfl
  refine run_pure (o := ?_) (v := ?_) (a' := ?_) ?_ ?_ ?_ ?_ ?_
  rotate_left 3
  · (simp only [List.getElem?_toArray, List.getElem?_cons_succ, List.getElem?_cons_zero] <;> rfl)
  · rfl
  · intro w'
    go_simp
    with_reducible rfl
  · simp only [Act.put, List.setIfInBounds_toArray, List.set_cons_zero, List.set_cons_succ]
    rfl
  refine run_pure (o := ?_) (v := ?_) (a' := ?_) ?_ ?_ ?_ ?_ ?_
  rotate_left 3
  · (simp only [List.getElem?_toArray, List.getElem?_cons_succ, List.getElem?_cons_zero] <;> rfl)
  · rfl
  · intro w'
    go_simp
    with_reducible rfl
  · simp only [Act.put, List.setIfInBounds_toArray, List.set_cons_zero, List.set_cons_succ]
    rfl
  refine run_pure (o := ?_) (v := ?_) (a' := ?_) ?_ ?_ ?_ ?_ ?_
  rotate_left 3
  · (simp only [List.getElem?_toArray, List.getElem?_cons_succ, List.getElem?_cons_zero] <;> rfl)
  · rfl
  · intro w'
    go_simp
    with_reducible rfl
  · simp only [Act.put, List.setIfInBounds_toArray, List.set_cons_zero, List.set_cons_succ]
    rfl
  refine run_nil (fun a1 hx => ?_)
  have hc_a1 := (ext_cell hx).1
  have hf_a1 := (ext_cell hx).2
  have HX_a1 := Lib.hid hx
  have y_a1 := hx.size
  try simp at y_a1
  have z_a1_w_0 : w.heap.size < a1.heap.size := by omega
  have z_a1_w_1 : w.heap.size + 1 < a1.heap.size := by omega
  clear hx
  try dsimp only
  repeat (first | with_reducible refine wp_region_in [(0, 0)] (fun _ => true) ?_ ?_ ?_ | go_step)
  · rfl
  · rfl
  refine run_pure (o := ?_) (v := ?_) (a' := ?_) ?_ ?_ ?_ ?_ ?_
  rotate_left 3
  · (simp only [List.getElem?_toArray, List.getElem?_cons_succ, List.getElem?_cons_zero] <;> rfl)
  · rfl
  · intro w'
    go_simp
    with_reducible rfl
  · simp only [Act.put, List.setIfInBounds_toArray, List.set_cons_zero, List.set_cons_succ]
    rfl
  refine run_nil (fun b1 hx => ?_)
  have hc_b1 := (ext_cell hx).1
  have hf_b1 := (ext_cell hx).2
  have HX_b1 := Lib.hid hx
  have y_b1 := hx.size
  try simp at y_b1
  have z_b1_w_0 : w.heap.size < b1.heap.size := by omega
  have z_b1_w_1 : w.heap.size + 1 < b1.heap.size := by omega
  clear hx
  try dsimp only
  repeat (first | with_reducible refine wp_region_in [(0, 0), (1, 0)] (fun _ => true) ?_ ?_ ?_ | go_step)
  · rfl
  · rfl
  refine run_pure (o := ?_) (v := ?_) (a' := ?_) ?_ ?_ ?_ ?_ ?_
  rotate_left 3
  · (simp only [List.getElem?_toArray, List.getElem?_cons_succ, List.getElem?_cons_zero] <;> rfl)
  · rfl
  · intro w'
    go_simp
    with_reducible rfl
  · simp only [Act.put, List.setIfInBounds_toArray, List.set_cons_zero, List.set_cons_succ]
    rfl
  refine run_pure (o := ?_) (v := ?_) (a' := ?_) ?_ ?_ ?_ ?_ ?_
  rotate_left 3
  · (simp only [List.getElem?_toArray, List.getElem?_cons_succ, List.getElem?_cons_zero] <;> rfl)
  · rfl
  · intro w'
    go_simp
    with_reducible rfl
  · simp only [Act.put, List.setIfInBounds_toArray, List.set_cons_zero, List.set_cons_succ]
    rfl
  refine run_nil (fun c1 hx => ?_)
  have hc_c1 := (ext_cell hx).1
  have hf_c1 := (ext_cell hx).2
  have HX_c1 := Lib.hid hx
  have y_c1 := hx.size
  try simp at y_c1
  have z_c1_w_0 : w.heap.size < c1.heap.size := by omega
  have z_c1_w_1 : w.heap.size + 1 < c1.heap.size := by omega
  clear hx
  go_step
  go_step
  go_step
  go_loopw [7, 22] (fun v j wr => ∃ k : Nat, k ≤ n ∧ j = .int .i64 k ∧ Ext w wr ∧ w.heap.size + 2 ≤ wr.heap.size
      ∧ wr.ownsRow (w.heap.size + 2) 22 1 v (pws s i k).length ((pws s i k).map (Value.int .u64))
      ∧ Cells wr w.heap.size [.int .u64 (hi (pst s i k)), .int .u64 (lo (pst s i k)), .int .u64 (hi i), .int .u64 (lo i)]
      ∧ Cells wr (w.heap.size + 1) [.int .u64 0, .int .u64 0, .int .u64 0, .int .u64 0])
    (fun _ j _ => n - (intOf j).toNat)
  case atStart =>
    refine ⟨0, by omega, rfl, ?_, by omega, own_nil _ _ _ _, ?_, ?_⟩
    · repeat (first | exact Ext.refl _ | refine Ext.alloc ?_ _ | (refine Ext.setCell ?_ (by simp <;> omega) _) | refine Ext.drew ?_ | refine Ext.trans ?_ HX_c1.out | refine Ext.trans ?_ HX_b1.out | refine Ext.trans ?_ HX_a1.out | refine Ext.trans ?_ HX_w1.out)
    · exact Cells.mk4 (by go_simp <;> rfl) (by go_simp <;> rfl) (by go_simp <;> rfl) (by go_simp <;> rfl) (by go_simp) (by go_simp) (by go_simp) (by go_simp)
    · exact Cells.mk4 (by go_simp <;> rfl) (by go_simp <;> rfl) (by go_simp <;> rfl) (by go_simp <;> rfl) (by go_simp) (by go_simp) (by go_simp) (by go_simp)
  case round =>
    obtain ⟨k, hk, rfl, HX, z1, hown, hs, hr⟩ := hrel
    have HX_r := Lib.hid HX; clear HX
    have z_0 : w.heap.size < wr.heap.size := by omega
    have z_1 : w.heap.size + 1 < wr.heap.size := by omega
    clear hc_w1 hf_w1 hc_a1 hf_a1 hc_b1 hf_b1 hc_c1 hf_c1
    obtain ⟨s0, s1, s2, s3, sf0, sf1, sf2, sf3⟩ := hs.four
    obtain ⟨r0, r1, r2, r3, rf0, rf1, rf2, rf3⟩ := hr.four
    by_cases hlt : k < n
    · have hlen : (pws s i k).length = k := pws_length s i k
      have HL := Lib.hid hlen; clear hlen
      go_wp2_with fail
      refine (pWord _ _ _).mono ?_
      rintro e w2 ⟨rfl, hx⟩
      have hown2 := (own_ext hown hx).alloc (.cells #[.int .u64 (wordP (pst s i k))] 22)
      have hs2 := hs.ext (hx.alloc (.cells #[.int .u64 (wordP (pst s i k))] 22))
      have hr2 := hr.ext (hx.alloc (.cells #[.int .u64 (wordP (pst s i k))] 22))
      have y2 := hx.size
      have HX_2 := Lib.hid hx
      clear hx hs hr hown s0 s1 s2 s3 sf0 sf1 sf2 sf3 r0 r1 r2 r3 rf0 rf1 rf2 rf3
      go_wp2_with (at_builtin; refine wpList_append_own _ rfl _ _ 38 rfl (w.heap.size + 2) 22 i0 (.int .u64 0) 1 8 Try.underlying38 Hinfo.out Hz0.out Hz1.out Hz2.out rfl (by decide) _ _ _ rfl hown2 ⟨w2.heap.size, 0, none⟩ 1 1 [.int .u64 (wordP (pst s i k))] rfl rfl ?c1 ?c2 ?c3 ?c4 ?c5 ?_)
      case c1 => exact one_new _ _ _
      case c2 => intro u hu; simp at hu; subst hu; rfl
      case c3 => rw [HL.out]; unfold maxLen; omega
      case c4 => rw [HL.out]; omega
      case c5 => simp; omega
      intro v' w3 hown3 hg3 _
      have hbb : w.heap.size + 2 ≤ (w2.alloc (.cells #[.int .u64 (wordP (pst s i k))] 22)).heap.size := by simp; omega
      have hs3 := hs2.grown hown2 hg3 hbb (by omega)
      have hr3 := hr2.grown hown2 hg3 hbb (by omega)
      have X3 : Ext w w3 := Ext.grown ((HX_r.out.trans HX_2.out).alloc _) hown2 hg3 (by omega)
      have X3 := Lib.hid X3
      have z3 : w.heap.size + 2 ≤ w3.heap.size := by have := hg3.size; omega
      clear hg3 hbb hs2 hr2 hown2
      obtain ⟨s0, s1, s2, s3, sf0, sf1, sf2, sf3⟩ := hs3.four
      go_wp2_with fail
      refine (pStep _ _ _).mono ?_
      rintro e w4 ⟨rfl, hx⟩
      have hs4 := hs3.ext hx
      have hr4 := hr3.ext hx
      have hown4 := own_ext hown3 hx
      have y4 := hx.size
      have X4 := Lib.hid (X3.out.trans hx)
      clear hx hs3 hr3 hown3 s0 s1 s2 s3 sf0 sf1 sf2 sf3 X3
      obtain ⟨s0, s1, s2, s3, sf0, sf1, sf2, sf3⟩ := hs4.four
      go_wp2_with fail
      go_roundw
      case rel =>
        refine ⟨k + 1, by omega, by simp, ?_, by simp; omega, ?_, ?_, ?_⟩
        · exact (((X4.out.setCell (by simp) _).setCell (by simp) _).setCell (by simp) _).setCell (by simp) _
        · rw [pws_succ, List.length_append, List.map_append]
          exact own_set (own_set (own_set (own_set hown4 (by simp) _) (by simp) _) (by simp) _) (by simp) _
        · exact (((hs4.set 0 _).set 1 _).set 2 _).set 3 _
        · exact (((hr4.other (by omega) _ _).other (by omega) _ _).other (by omega) _ _).other (by omega) _ _
      case measure => simp [intOf]; omega
    · go_wp2_with fail
      have hkn : k = n := by omega
      subst hkn
      try dsimp only
      repeat (first | with_reducible refine wp_region_ext ?_ [(0, 0), (1, 1), (2, 0), (3, 2), (4, 0)] (fun i => !(i == 3)) ?_ ?_ ?_ ?_ ?_ | go_step)
      · kernel_rfl
      · kernel_rfl
      · kernel_rfl
      · kernel_rfl
      · exact (fun _ _ d _ _ h => by cases d <;> exact h)
      refine run_pure (o := ?_) (v := ?_) (a' := ?_) ?_ ?_ ?_ ?_ ?_
      rotate_left 3
      · (simp only [List.getElem?_toArray, List.getElem?_cons_succ, List.getElem?_cons_zero] <;> rfl)
      · rfl
      · intro w'
        go_simp
        with_reducible rfl
      · simp only [Act.put, List.setIfInBounds_toArray, List.set_cons_zero, List.set_cons_succ]
        rfl
      refine run_read (o := ?_) (v := ?_) (a' := ?_) ?_ ?_ ?_ ?_ (Ext.refl _) ?_
      rotate_left 3
      · (simp only [List.getElem?_toArray, List.getElem?_cons_succ, List.getElem?_cons_zero] <;> rfl)
      · rfl
      · intro w' hw'
        obtain ⟨hc, hf⟩ := ext_cell hw'
        clear hw'
        go_simp
        with_reducible rfl
      · simp only [Act.put, List.setIfInBounds_toArray, List.set_cons_zero, List.set_cons_succ]
        rfl
      refine run_pure (o := ?_) (v := ?_) (a' := ?_) ?_ ?_ ?_ ?_ ?_
      rotate_left 3
      · (simp only [List.getElem?_toArray, List.getElem?_cons_succ, List.getElem?_cons_zero] <;> rfl)
      · rfl
      · intro w'
        go_simp
        with_reducible rfl
      · simp only [Act.put, List.setIfInBounds_toArray, List.set_cons_zero, List.set_cons_succ]
        rfl
      refine run_do (o := ?_) ?_ ?_ (fun d1 hx K hK => ?_)
      rotate_left
      · (simp only [List.getElem?_toArray, List.getElem?_cons_succ, List.getElem?_cons_zero] <;> rfl)
      · rfl
      have hc_d1 := (ext_cell hx).1
      have hf_d1 := (ext_cell hx).2
      have HX_d1 := Lib.hid hx
      have y_d1 := hx.size
      try simp at y_d1
      have z_d1_w_0 : w.heap.size < d1.heap.size := by omega
      have z_d1_w_1 : w.heap.size + 1 < d1.heap.size := by omega
      clear hx
      go_simp
      refine hK _ _ (fun h => absurd h (by decide)) ?_
      clear hK K
      refine run_pure (o := ?_) (v := ?_) (a' := ?_) ?_ ?_ ?_ ?_ ?_
      rotate_left 3
      · (simp only [List.getElem?_toArray, List.getElem?_cons_succ, List.getElem?_cons_zero] <;> rfl)
      · rfl
      · intro w'
        go_simp
        with_reducible rfl
      · simp only [Act.put, List.setIfInBounds_toArray, List.set_cons_zero, List.set_cons_succ]
        rfl
      refine run_nil (fun d2 hx => ?_)
      have hc_d2 := (ext_cell hx).1
      have hf_d2 := (ext_cell hx).2
      have HX_d2 := Lib.hid hx
      have y_d2 := hx.size
      try simp at y_d2
      have z_d2_w_0 : w.heap.size < d2.heap.size := by omega
      have z_d2_w_1 : w.heap.size + 1 < d2.heap.size := by omega
      clear hx
      go_wp2
      refine bodyPost_ret (v := ?_) ?_ rfl ⟨u7, ?_, ?_, ?_⟩
      rotate_left
      · simp only [results, Try.results19]
        go_simp
        with_reducible rfl
      · rfl
      · refine Reads.of_own (base := w.heap.size + 2) (e := 22) ?_
        repeat (first | exact hown | refine own_ext ?_ HX_d2.out | refine own_ext ?_ HX_d1.out | (refine own_set ?_ (by simp) _))
      · repeat (first | exact HX_r.out | (refine Ext.setCell ?_ (by simp) _) | refine Ext.trans ?_ HX_d2.out | refine Ext.trans ?_ HX_d1.out)
end Go.Proofs.Ytjjapblpmpidcab
