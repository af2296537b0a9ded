import Derived.Test.YtjjapblpmpidcaaH1
set_option linter.unusedVariables false
set_option linter.unusedSimpArgs false
namespace Go.Proofs.Ytjjapblpmpidcaa
open Go.RowKit Num UReg

/-! ### half: Jump; the reference's Jump -/
def jumpV (c : V) (b : Bool) (n : V) : V × Bool := if n.toNat % 2 = 1 then (stepC c b + shr n 1, !b) else (c + shr n 1, b)
theorem wBitG {a : V} {n b : Int} (h : bit a n = b) (w : World) : Calls Try.prog 43 #[.agg #[.int .u64 (hi a), .int .u64 (lo a)], .int .i64 n] w fun e w' =>
    e = .returned (.int .i64 b) ∧ Ext w w' := by
  have h1 := wBit a n w
  rwa [h] at h1
theorem wRightG {a s : V} {n : Int} (h : shr a n = s) (w : World) : Calls Try.prog 72 #[.agg #[.int .u64 (hi a), .int .u64 (lo a)], .int .i64 n] w fun e w' =>
    e = .returned (.agg #[.int .u64 (hi s), .int .u64 (lo s)]) ∧ Ext w w' := by
  have h1 := wRight a n w
  rwa [h] at h1
theorem UReg.Cells.mk5' {w : World} {b : Nat} {x y z t u : Value} (h0 : w.cell? ⟨b, 0, none⟩ = some x) (h1 : w.cell? ⟨b, 1, none⟩ = some y) (h2 : w.cell? ⟨b, 2, none⟩ = some z) (h3 : w.cell? ⟨b, 3, none⟩ = some t) (h4 : w.cell? ⟨b, 4, none⟩ = some u)
    (f : ∀ o, w.frozen? ⟨b, o, none⟩ = false) : Cells w b [x, y, z, t, u] := .mk5 h0 h1 h2 h3 h4 (f 0) (f 1) (f 2) (f 3) (f 4)
set_option maxHeartbeats 4000000 in
theorem hJump_even {c d r : V} {b : Bool} {n : V} (hp : n.toNat % 2 = 0) (hr' : shr n 1 = r) (hd : c + r = d) (k0 k1 : Int) (w : World) : Calls Try.prog 53 #[.agg #[.int .u64 (hi c), .int .u64 (lo c), .int .u32 k0, .int .u32 k1, .bool b], .agg #[.int .u64 (hi n), .int .u64 (lo n)]] w fun e w' => e = .returned (.agg #[.int .u64 (hi d), .int .u64 (lo d), .int .u32 k0, .int .u32 k1, .bool b]) ∧ Ext w w' := by
  have HB := Lib.hid (wBitG (a := n) (n := 0) (b := 0) (by rw [bit0, hp]; rfl))
  have HR := Lib.hid hr'; clear hr'
  have HD := Lib.hid hd; clear hd hp
  go_enter Try.func53, Try.ntmps53
  go_wp2_with fail
  refine (HB.out _).mono ?_
  rintro e w1 ⟨rfl, hx⟩
  have hc_w1 := (ext_cell hx).1
  have hf_w1 := (ext_cell hx).2
  have HX_w1 := Lib.hid hx
  have y_w1 := hx.size
  try simp at y_w1
  have z_w1_w_0 : w.heap.size < w1.heap.size := by omega
  have z_w1_w_1 : w.heap.size + 1 < w1.heap.size := by omega
  have z_w1_w_2 : w.heap.size + 2 < w1.heap.size := by omega
  clear hx
  have hs : Cells w1 w.heap.size [.int .u64 (hi c), .int .u64 (lo c), .int .u32 k0, .int .u32 k1, .bool b] := Cells.mk5 (by go_simp <;> rfl) (by go_simp <;> rfl) (by go_simp <;> rfl) (by go_simp <;> rfl) (by go_simp <;> rfl) (by go_simp) (by go_simp) (by go_simp) (by go_simp) (by go_simp)
  have hn : Cells w1 (w.heap.size + 1) [.int .u64 (hi n), .int .u64 (lo n)] := Cells.mk2 (by go_simp <;> rfl) (by go_simp <;> rfl) (by go_simp) (by go_simp)
  have hr : Cells w1 (w.heap.size + 1 + 1) [.int .u64 0, .int .u64 0, .int .u32 0, .int .u32 0, .bool false] := Cells.mk5 (by go_simp <;> rfl) (by go_simp <;> rfl) (by go_simp <;> rfl) (by go_simp <;> rfl) (by go_simp <;> rfl) (by go_simp) (by go_simp) (by go_simp) (by go_simp) (by go_simp)
  have XS : Ext w w1 := by
    repeat (first | with_reducible exact Ext.refl _ | with_reducible refine Ext.alloc ?_ _ | with_reducible refine Ext.trans ?_ HX_w1.out)
  have XS := Lib.hid XS
  clear hc_w1 hf_w1
  obtain ⟨s0, s1, s2, s3, s4, sf0, sf1, sf2, sf3, sf4⟩ := hs.five
  obtain ⟨n0, n1, nf0, nf1⟩ := hn.two
  try dsimp only
  repeat (first | with_reducible refine wp_region_ext ?_ [(0, 0), (1, 1), (2, 1), (3, 1), (4, 1), (5, 0), (6, 0), (7, 0), (8, 0), (9, 2)] (fun i => !(i == 9)) ?_ ?_ ?_ ?_ ?_ | go_step)
  · kernel_rfl
  · kernel_rfl
  · kernel_rfl
  · kernel_rfl
  · exact (fun _ _ d _ _ h => by cases d <;> exact h)
  refine run_pure (o := ?_) (v := ?_) (a' := ?_) ?_ ?_ ?_ ?_ ?_
  rotate_left 3
  · (simp only [List.getElem?_toArray, List.getElem?_cons_succ, List.getElem?_cons_zero] <;> rfl)
  · rfl
  · intro w'
    go_simp
    with_reducible rfl
  · simp only [Act.put, List.setIfInBounds_toArray, List.set_cons_zero, List.set_cons_succ]
    rfl
  refine run_read (o := ?_) (v := ?_) (a' := ?_) ?_ ?_ ?_ ?_ (Ext.refl _) ?_
  rotate_left 3
  · (simp only [List.getElem?_toArray, List.getElem?_cons_succ, List.getElem?_cons_zero] <;> rfl)
  · rfl
  · intro w' hw'
    obtain ⟨hc, hf⟩ := ext_cell hw'
    clear hw'
    go_simp
    with_reducible rfl
  · simp only [Act.put, List.setIfInBounds_toArray, List.set_cons_zero, List.set_cons_succ]
    rfl
  refine run_read (o := ?_) (v := ?_) (a' := ?_) ?_ ?_ ?_ ?_ (Ext.refl _) ?_
  rotate_left 3
  · (simp only [List.getElem?_toArray, List.getElem?_cons_succ, List.getElem?_cons_zero] <;> rfl)
  · rfl
  · intro w' hw'
    obtain ⟨hc, hf⟩ := ext_cell hw'
    clear hw'
    go_simp
    with_reducible rfl
  · simp only [Act.put, List.setIfInBounds_toArray, List.set_cons_zero, List.set_cons_succ]
    rfl
  refine run_call (f := 72) (args := ?_) (o := ?_) (v := ?_) (a' := ?_) ?_ ?_ ?_ ?_ ?_ (Ext.refl _) ?_
  rotate_left 4
  · (simp only [List.getElem?_toArray, List.getElem?_cons_succ, List.getElem?_cons_zero] <;> rfl)
  · rfl
  · intro w'
    go_simp
    with_reducible rfl
  · intro w' hw'
    exact (wRightG HR.out _)
  · simp only [Act.put, List.setIfInBounds_toArray, List.set_cons_zero, List.set_cons_succ]
    rfl
  refine run_call (f := 40) (args := ?_) (o := ?_) (v := ?_) (a' := ?_) ?_ ?_ ?_ ?_ ?_ (Ext.refl _) ?_
  rotate_left 4
  · (simp only [List.getElem?_toArray, List.getElem?_cons_succ, List.getElem?_cons_zero] <;> rfl)
  · rfl
  · intro w'
    go_simp
    with_reducible rfl
  · intro w' hw'
    exact (wAddG HD.out _)
  · simp only [Act.put, List.setIfInBounds_toArray, List.set_cons_zero, List.set_cons_succ]
    rfl
  refine run_pure (o := ?_) (v := ?_) (a' := ?_) ?_ ?_ ?_ ?_ ?_
  rotate_left 3
  · (simp only [List.getElem?_toArray, List.getElem?_cons_succ, List.getElem?_cons_zero] <;> rfl)
  · rfl
  · intro w'
    go_simp
    with_reducible rfl
  · simp only [Act.put, List.setIfInBounds_toArray, List.set_cons_zero, List.set_cons_succ]
    rfl
  refine run_pure (o := ?_) (v := ?_) (a' := ?_) ?_ ?_ ?_ ?_ ?_
  rotate_left 3
  · (simp only [List.getElem?_toArray, List.getElem?_cons_succ, List.getElem?_cons_zero] <;> rfl)
  · rfl
  · intro w'
    go_simp
    with_reducible rfl
  · simp only [Act.put, List.setIfInBounds_toArray, List.set_cons_zero, List.set_cons_succ]
    rfl
  refine run_pure (o := ?_) (v := ?_) (a' := ?_) ?_ ?_ ?_ ?_ ?_
  rotate_left 3
  · (simp only [List.getElem?_toArray, List.getElem?_cons_succ, List.getElem?_cons_zero] <;> rfl)
  · rfl
  · intro w'
    go_simp
    with_reducible rfl
  · simp only [Act.put, List.setIfInBounds_toArray, List.set_cons_zero, List.set_cons_succ]
    rfl
  refine run_pure (o := ?_) (v := ?_) (a' := ?_) ?_ ?_ ?_ ?_ ?_
  rotate_left 3
  · (simp only [List.getElem?_toArray, List.getElem?_cons_succ, List.getElem?_cons_zero] <;> rfl)
  · rfl
  · intro w'
    go_simp
    with_reducible rfl
  · simp only [Act.put, List.setIfInBounds_toArray, List.set_cons_zero, List.set_cons_succ]
    rfl
  refine run_do (o := ?_) ?_ ?_ (fun d1 hx K hK => ?_)
  rotate_left
  · (simp only [List.getElem?_toArray, List.getElem?_cons_succ, List.getElem?_cons_zero] <;> rfl)
  · rfl
  have hc_d1 := (ext_cell hx).1
  have hf_d1 := (ext_cell hx).2
  have HX_d1 := Lib.hid hx
  have y_d1 := hx.size
  try simp at y_d1
  have z_d1_w_0 : w.heap.size < d1.heap.size := by omega
  have z_d1_w_1 : w.heap.size + 1 < d1.heap.size := by omega
  have z_d1_w_2 : w.heap.size + 2 < d1.heap.size := by omega
  clear hx
  go_simp
  refine hK _ _ (fun h => absurd h (by decide)) ?_
  clear hK K
  refine run_nil (fun d2 hx => ?_)
  have hc_d2 := (ext_cell hx).1
  have hf_d2 := (ext_cell hx).2
  have HX_d2 := Lib.hid hx
  have y_d2 := hx.size
  try simp at y_d2
  have z_d2_w_0 : w.heap.size < d2.heap.size := by omega
  have z_d2_w_1 : w.heap.size + 1 < d2.heap.size := by omega
  have z_d2_w_2 : w.heap.size + 2 < d2.heap.size := by omega
  clear hx
  have hb2 := (((hs.ext HX_d1.out).set 0 (.int .u64 (hi d))).set 1 (.int .u64 (lo d))).ext HX_d2.out
  have hr2 := (((hr.ext HX_d1.out).other (by omega) 0 (.int .u64 (hi d))).other (by omega) 1 (.int .u64 (lo d))).ext HX_d2.out
  simp only [List.set_cons_zero, List.set_cons_succ] at hb2
  clear s0 s1 s2 s3 s4 sf0 sf1 sf2 sf3 sf4 n0 n1 nf0 nf1 hs hn hr hc_d1 hf_d1 hc_d2 hf_d2
  obtain ⟨c0, c1, c2, c3, c4, cf0, cf1, cf2, cf3, cf4⟩ := hb2.five
  obtain ⟨r0, r1, r2, r3, r4, rf0, rf1, rf2, rf3, rf4⟩ := hr2.five
  clear hb2 hr2
  go_wp2
  refine bodyPost_ret (v := ?_) ?_ rfl ⟨?_, ?_⟩
  rotate_left
  · simp only [results, Try.results53]
    go_simp
    with_reducible rfl
  · rfl
  · repeat (first | with_reducible exact XS.out | with_reducible refine Ext.alloc ?_ _ | (with_reducible refine Ext.setCell ?_ (by simp <;> omega) _) | with_reducible refine Ext.trans ?_ HX_d2.out | with_reducible refine Ext.trans ?_ HX_d1.out)
set_option maxHeartbeats 4000000 in
theorem hJump_odd {c d r x : V} {b b' : Bool} {n : V} (hp : n.toNat % 2 = 1) (hx : stepC c b = x) (hb' : (!b) = b') (hr' : shr n 1 = r) (hd : x + r = d) (k0 k1 : Int) (w : World) : Calls Try.prog 53 #[.agg #[.int .u64 (hi c), .int .u64 (lo c), .int .u32 k0, .int .u32 k1, .bool b], .agg #[.int .u64 (hi n), .int .u64 (lo n)]] w fun e w' => e = .returned (.agg #[.int .u64 (hi d), .int .u64 (lo d), .int .u32 k0, .int .u32 k1, .bool b']) ∧ Ext w w' := by
  have HB := Lib.hid (wBitG (a := n) (n := 0) (b := 1) (by rw [bit0, hp]; rfl))
  have HR := Lib.hid hr'; clear hr'
  have HD := Lib.hid hd; clear hd hp
  have HS := Lib.hid (hStep hx hb' k0 k1); clear hx hb'
  go_enter Try.func53, Try.ntmps53
  go_wp2_with fail
  refine (HB.out _).mono ?_
  rintro e w1 ⟨rfl, hx⟩
  have hc_w1 := (ext_cell hx).1
  have hf_w1 := (ext_cell hx).2
  have HX_w1 := Lib.hid hx
  have y_w1 := hx.size
  try simp at y_w1
  have z_w1_w_0 : w.heap.size < w1.heap.size := by omega
  have z_w1_w_1 : w.heap.size + 1 < w1.heap.size := by omega
  have z_w1_w_2 : w.heap.size + 2 < w1.heap.size := by omega
  clear hx
  go_wp2_with fail
  refine (HS.out _).mono ?_
  rintro e w2 ⟨rfl, hx⟩
  have hc_w2 := (ext_cell hx).1
  have hf_w2 := (ext_cell hx).2
  have HX_w2 := Lib.hid hx
  have y_w2 := hx.size
  try simp at y_w2
  have z_w2_w_0 : w.heap.size < w2.heap.size := by omega
  have z_w2_w_1 : w.heap.size + 1 < w2.heap.size := by omega
  have z_w2_w_2 : w.heap.size + 2 < w2.heap.size := by omega
  clear hx
  have hsA : Cells w2 w.heap.size [.int .u64 (hi c), .int .u64 (lo c), .int .u32 k0, .int .u32 k1, .bool b] := Cells.mk5 (by go_simp <;> rfl) (by go_simp <;> rfl) (by go_simp <;> rfl) (by go_simp <;> rfl) (by go_simp <;> rfl) (by go_simp) (by go_simp) (by go_simp) (by go_simp) (by go_simp)
  have hnA : Cells w2 (w.heap.size + 1) [.int .u64 (hi n), .int .u64 (lo n)] := Cells.mk2 (by go_simp <;> rfl) (by go_simp <;> rfl) (by go_simp) (by go_simp)
  have hrA : Cells w2 (w.heap.size + 1 + 1) [.int .u64 0, .int .u64 0, .int .u32 0, .int .u32 0, .bool false] := Cells.mk5 (by go_simp <;> rfl) (by go_simp <;> rfl) (by go_simp <;> rfl) (by go_simp <;> rfl) (by go_simp <;> rfl) (by go_simp) (by go_simp) (by go_simp) (by go_simp) (by go_simp)
  have XS : Ext w w2 := by
    repeat (first | with_reducible exact Ext.refl _ | with_reducible refine Ext.alloc ?_ _ | with_reducible refine Ext.trans ?_ HX_w2.out | with_reducible refine Ext.trans ?_ HX_w1.out)
  have XS := Lib.hid XS
  clear hc_w1 hf_w1 hc_w2 hf_w2
  obtain ⟨a0, a1, a2, a3, a4, af0, af1, af2, af3, af4⟩ := hsA.five
  obtain ⟨v0, v1, vf0, vf1⟩ := hnA.two
  obtain ⟨r0, r1, r2, r3, r4, rf0, rf1, rf2, rf3, rf4⟩ := hrA.five
  try dsimp only
  repeat (first | with_reducible refine wp_region_ext ?_ [(0, 0), (1, 1), (2, 1), (3, 1), (4, 1), (5, 0), (6, 0), (7, 0), (8, 0), (9, 2)] (fun i => !(i == 9)) ?_ ?_ ?_ ?_ ?_ | go_step)
  · kernel_rfl
  · kernel_rfl
  · kernel_rfl
  · kernel_rfl
  · exact (fun _ _ d _ _ h => by cases d <;> exact h)
  refine run_pure (o := ?_) (v := ?_) (a' := ?_) ?_ ?_ ?_ ?_ ?_
  rotate_left 3
  · (simp only [List.getElem?_toArray, List.getElem?_cons_succ, List.getElem?_cons_zero] <;> rfl)
  · rfl
  · intro w'
    go_simp
    with_reducible rfl
  · simp only [Act.put, List.setIfInBounds_toArray, List.set_cons_zero, List.set_cons_succ]
    rfl
  refine run_read (o := ?_) (v := ?_) (a' := ?_) ?_ ?_ ?_ ?_ (Ext.refl _) ?_
  rotate_left 3
  · (simp only [List.getElem?_toArray, List.getElem?_cons_succ, List.getElem?_cons_zero] <;> rfl)
  · rfl
  · intro w' hw'
    obtain ⟨hc, hf⟩ := ext_cell hw'
    clear hw'
    go_simp
    with_reducible rfl
  · simp only [Act.put, List.setIfInBounds_toArray, List.set_cons_zero, List.set_cons_succ]
    rfl
  refine run_read (o := ?_) (v := ?_) (a' := ?_) ?_ ?_ ?_ ?_ (Ext.refl _) ?_
  rotate_left 3
  · (simp only [List.getElem?_toArray, List.getElem?_cons_succ, List.getElem?_cons_zero] <;> rfl)
  · rfl
  · intro w' hw'
    obtain ⟨hc, hf⟩ := ext_cell hw'
    clear hw'
    go_simp
    with_reducible rfl
  · simp only [Act.put, List.setIfInBounds_toArray, List.set_cons_zero, List.set_cons_succ]
    rfl
  refine run_call (f := 72) (args := ?_) (o := ?_) (v := ?_) (a' := ?_) ?_ ?_ ?_ ?_ ?_ (Ext.refl _) ?_
  rotate_left 4
  · (simp only [List.getElem?_toArray, List.getElem?_cons_succ, List.getElem?_cons_zero] <;> rfl)
  · rfl
  · intro w'
    go_simp
    with_reducible rfl
  · intro w' hw'
    exact (wRightG HR.out _)
  · simp only [Act.put, List.setIfInBounds_toArray, List.set_cons_zero, List.set_cons_succ]
    rfl
  refine run_call (f := 40) (args := ?_) (o := ?_) (v := ?_) (a' := ?_) ?_ ?_ ?_ ?_ ?_ (Ext.refl _) ?_
  rotate_left 4
  · (simp only [List.getElem?_toArray, List.getElem?_cons_succ, List.getElem?_cons_zero] <;> rfl)
  · rfl
  · intro w'
    go_simp
    with_reducible rfl
  · intro w' hw'
    exact (wAddG HD.out _)
  · simp only [Act.put, List.setIfInBounds_toArray, List.set_cons_zero, List.set_cons_succ]
    rfl
  refine run_pure (o := ?_) (v := ?_) (a' := ?_) ?_ ?_ ?_ ?_ ?_
  rotate_left 3
  · (simp only [List.getElem?_toArray, List.getElem?_cons_succ, List.getElem?_cons_zero] <;> rfl)
  · rfl
  · intro w'
    go_simp
    with_reducible rfl
  · simp only [Act.put, List.setIfInBounds_toArray, List.set_cons_zero, List.set_cons_succ]
    rfl
  refine run_pure (o := ?_) (v := ?_) (a' := ?_) ?_ ?_ ?_ ?_ ?_
  rotate_left 3
  · (simp only [List.getElem?_toArray, List.getElem?_cons_succ, List.getElem?_cons_zero] <;> rfl)
  · rfl
  · intro w'
    go_simp
    with_reducible rfl
  · simp only [Act.put, List.setIfInBounds_toArray, List.set_cons_zero, List.set_cons_succ]
    rfl
  refine run_pure (o := ?_) (v := ?_) (a' := ?_) ?_ ?_ ?_ ?_ ?_
  rotate_left 3
  · (simp only [List.getElem?_toArray, List.getElem?_cons_succ, List.getElem?_cons_zero] <;> rfl)
  · rfl
  · intro w'
    go_simp
    with_reducible rfl
  · simp only [Act.put, List.setIfInBounds_toArray, List.set_cons_zero, List.set_cons_succ]
    rfl
  refine run_pure (o := ?_) (v := ?_) (a' := ?_) ?_ ?_ ?_ ?_ ?_
  rotate_left 3
  · (simp only [List.getElem?_toArray, List.getElem?_cons_succ, List.getElem?_cons_zero] <;> rfl)
  · rfl
  · intro w'
    go_simp
    with_reducible rfl
  · simp only [Act.put, List.setIfInBounds_toArray, List.set_cons_zero, List.set_cons_succ]
    rfl
  refine run_do (o := ?_) ?_ ?_ (fun d1 hx K hK => ?_)
  rotate_left
  · (simp only [List.getElem?_toArray, List.getElem?_cons_succ, List.getElem?_cons_zero] <;> rfl)
  · rfl
  have hc_d1 := (ext_cell hx).1
  have hf_d1 := (ext_cell hx).2
  have HX_d1 := Lib.hid hx
  have y_d1 := hx.size
  try simp at y_d1
  have z_d1_w_0 : w.heap.size < d1.heap.size := by omega
  have z_d1_w_1 : w.heap.size + 1 < d1.heap.size := by omega
  have z_d1_w_2 : w.heap.size + 2 < d1.heap.size := by omega
  clear hx
  go_simp
  refine hK _ _ (fun h => absurd h (by decide)) ?_
  clear hK K
  refine run_nil (fun d2 hx => ?_)
  have hc_d2 := (ext_cell hx).1
  have hf_d2 := (ext_cell hx).2
  have HX_d2 := Lib.hid hx
  have y_d2 := hx.size
  try simp at y_d2
  have z_d2_w_0 : w.heap.size < d2.heap.size := by omega
  have z_d2_w_1 : w.heap.size + 1 < d2.heap.size := by omega
  have z_d2_w_2 : w.heap.size + 2 < d2.heap.size := by omega
  clear hx
  have hb2 := ((((((((hsA.set 0 (.int .u64 (hi x))).set 1 (.int .u64 (lo x))).set 2 (.int .u32 k0)).set 3 (.int .u32 k1)).set 4 (.bool b')).ext HX_d1.out).set 0 (.int .u64 (hi d))).set 1 (.int .u64 (lo d))).ext HX_d2.out
  have hr2 := ((((((((hrA.other (by omega) 0 (.int .u64 (hi x))).other (by omega) 1 (.int .u64 (lo x))).other (by omega) 2 (.int .u32 k0)).other (by omega) 3 (.int .u32 k1)).other (by omega) 4 (.bool b')).ext HX_d1.out).other (by omega) 0 (.int .u64 (hi d))).other (by omega) 1 (.int .u64 (lo d))).ext HX_d2.out
  simp only [List.set_cons_zero, List.set_cons_succ] at hb2
  clear a0 a1 a2 a3 a4 af0 af1 af2 af3 af4 v0 v1 vf0 vf1 hsA hnA hrA hc_d1 hf_d1 hc_d2 hf_d2 r0 r1 r2 r3 r4 rf0 rf1 rf2 rf3 rf4
  obtain ⟨c0, c1, c2, c3, c4, cf0, cf1, cf2, cf3, cf4⟩ := hb2.five
  obtain ⟨r0, r1, r2, r3, r4, rf0, rf1, rf2, rf3, rf4⟩ := hr2.five
  clear hb2 hr2
  go_wp2
  refine bodyPost_ret (v := ?_) ?_ rfl ⟨?_, ?_⟩
  rotate_left
  · simp only [results, Try.results53]
    go_simp
    with_reducible rfl
  · rfl
  · repeat (first | with_reducible exact XS.out | with_reducible refine Ext.alloc ?_ _ | (with_reducible refine Ext.setCell ?_ (by simp <;> omega) _) | with_reducible refine Ext.trans ?_ HX_d2.out | with_reducible refine Ext.trans ?_ HX_d1.out)
theorem hJump {c d : V} {b b' : Bool} {n : V} (h : jumpV c b n = (d, b')) (k0 k1 : Int) (w : World) : Calls Try.prog 53 #[.agg #[.int .u64 (hi c), .int .u64 (lo c), .int .u32 k0, .int .u32 k1, .bool b], .agg #[.int .u64 (hi n), .int .u64 (lo n)]] w fun e w' => e = .returned (.agg #[.int .u64 (hi d), .int .u64 (lo d), .int .u32 k0, .int .u32 k1, .bool b']) ∧ Ext w w' := by
  unfold jumpV at h
  by_cases hp : n.toNat % 2 = 1
  · rw [if_pos hp, Prod.mk.injEq] at h
    exact hJump_odd hp rfl h.2 rfl h.1 k0 k1 w
  · rw [if_neg hp, Prod.mk.injEq] at h
    obtain ⟨h1, rfl⟩ := h
    exact hJump_even (by omega) rfl h1 k0 k1 w

/-! The reference's Jump, step by step -/
theorem stepC_add (c x : V) (b : Bool) : stepC (c + x) b = stepC c b + x := by
  unfold stepC
  split
  · grind
  · rfl
theorem jumpC_eq (c : V) (b : Bool) : ∀ k, jumpC c b k = if k % 2 = 1 then (stepC c b + BitVec.ofNat 128 (k / 2), !b) else (c + BitVec.ofNat 128 (k / 2), b)
  | 0 => by simp [jumpC]
  | k + 1 => by
    rw [jumpC, jumpC_eq c b k]
    by_cases h : k % 2 = 1
    · rw [if_pos h, if_neg (by omega)]
      simp only [stepC_add, Bool.not_not]
      have e : (k + 1) / 2 = k / 2 + 1 := by omega
      rw [e]
      have e2 : BitVec.ofNat 128 (k / 2 + 1) = BitVec.ofNat 128 (k / 2) + 1#128 := by
        apply BitVec.eq_of_toNat_eq
        simp [BitVec.toNat_add]
      rw [e2]
      congr 1
      cases b <;> simp [stepC] <;> grind
    · rw [if_neg h, if_pos (by omega)]
      simp only [stepC_add]
      have e : (k + 1) / 2 = k / 2 := by omega
      rw [e]
theorem jump_small (c : V) (b : Bool) (k : Nat) (h : k < 1000) : jumpV c b (of (k : Int)) = jumpC c b k := by
  have h1 : (of (k : Int)).toNat = k := by
    unfold of mk
    rw [BitVec.toNat_ofInt]
    omega
  have h2 : shr (of (k : Int)) 1 = BitVec.ofNat 128 (k / 2) := by
    apply BitVec.eq_of_toNat_eq
    rw [toNat_shr1, h1, BitVec.toNat_ofNat]
    exact (Nat.mod_eq_of_lt (by omega)).symm
  unfold jumpV
  rw [jumpC_eq, h1, h2]
end Go.Proofs.Ytjjapblpmpidcaa
