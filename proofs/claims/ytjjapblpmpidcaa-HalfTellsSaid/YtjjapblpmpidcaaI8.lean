import Derived.Test.YtjjapblpmpidcaaI7
import Derived.Test.YtjjapblpmpidcaaXD
set_option linter.unusedVariables false
set_option linter.unusedSimpArgs false
namespace Go.Proofs.Ytjjapblpmpidcaa
open Go.RowKit Num UReg

/-! ### ref01.Sum: of two lists of bits -/
/-- What is carried into place k. -/
def cb (X Y k : Nat) : Nat := (X % 2 ^ k + Y % 2 ^ k) / 2 ^ k
theorem cb_0 (X Y : Nat) : cb X Y 0 = 0 := by unfold cb; simp [Nat.mod_one]
theorem cb_lt (X Y k : Nat) : cb X Y k ≤ 1 := by
  unfold cb
  have hp := Nat.two_pow_pos k
  have h1 := Nat.mod_lt X hp
  have h2 := Nat.mod_lt Y hp
  have : (X % 2 ^ k + Y % 2 ^ k) / 2 ^ k < 2 := by
    rw [Nat.div_lt_iff_lt_mul hp]
    omega
  omega
theorem cb_sum (X Y k : Nat) : (X + Y) / 2 ^ k = X / 2 ^ k + Y / 2 ^ k + cb X Y k := by
  unfold cb
  have hp := Nat.two_pow_pos k
  have e1 : X = X % 2 ^ k + 2 ^ k * (X / 2 ^ k) := (Nat.mod_add_div X _).symm
  have e2 : Y = Y % 2 ^ k + 2 ^ k * (Y / 2 ^ k) := (Nat.mod_add_div Y _).symm
  have e : X + Y = X % 2 ^ k + Y % 2 ^ k + 2 ^ k * (X / 2 ^ k + Y / 2 ^ k) := by
    rw [Nat.mul_add]
    omega
  rw [e, Nat.add_mul_div_left _ _ hp]
  omega
theorem cb_step (X Y k : Nat) : (X / 2 ^ k % 2 + Y / 2 ^ k % 2 + cb X Y k) % 2 = (X + Y) / 2 ^ k % 2 ∧ (X / 2 ^ k % 2 + Y / 2 ^ k % 2 + cb X Y k) / 2 = cb X Y (k + 1) := by
  have h := cb_sum X Y k
  have h1 := cb_sum X Y (k + 1)
  rw [Nat.pow_succ, ← Nat.div_div_eq_div_mul, ← Nat.div_div_eq_div_mul, ← Nat.div_div_eq_div_mul] at h1
  rw [h] at h1 ⊢
  generalize X / 2 ^ k = x at *
  generalize Y / 2 ^ k = y at *
  omega
theorem cb_end (X Y n : Nat) (hX : X < 2 ^ n) (hY : Y < 2 ^ n) : cb X Y n = (X + Y) / 2 ^ n % 2 := by
  have h := cb_sum X Y n
  rw [Nat.div_eq_of_lt hX, Nat.div_eq_of_lt hY] at h
  have := cb_lt X Y n
  omega
set_option maxHeartbeats 2000000 in
theorem rSum (X Y n : Nat) (hX : X < 2 ^ n) (hY : Y < 2 ^ n) (hn : n ≤ 1000) (u v : Value) (w : World) (hu : Reads w .i64 u (bitsN X n)) (hv : Reads w .i64 v (bitsN Y n)) :
    Calls Try.prog 82 #[u, v] w fun e w' => ∃ r, e = .returned r ∧ OwnI w' w.heap.size r (bitsN (X + Y) (n + 1)) ∧ Ext w w' := by
  have HE := Lib.hid (cb_end X Y n hX hY)
  have H0 := Lib.hid (cb_0 X Y)
  clear hX hY
  obtain ⟨p, cp, rfl, hp⟩ := hu.flat
  obtain ⟨q, cq, rfl, hq⟩ := hv.flat
  clear hu hv
  simp only [bitsN_length] at hp hq ⊢
  have hp := Lib.hid hp
  have hq := Lib.hid hq
  go_enter Try.func82, Try.ntmps82
  go_wp2_with fail
  go_loopw [5, 6, 7] (fun r c j wr => ∃ k : Nat, k ≤ n ∧ j = .int .i64 k ∧ c = .int .i64 (cb X Y k : Nat) ∧ Ext w wr ∧ w.heap.size ≤ wr.heap.size ∧ OwnI wr w.heap.size r (bitsN (X + Y) k))
    (fun _ _ j _ => n - (intOf j).toNat)
  case atStart =>
    refine ⟨0, by omega, rfl, by rw [H0.out]; rfl, (Ext.refl _).alloc _, by simp, ?_⟩
    exact OwnI.lit w w.heap.size [] (by omega) (by simp)
  case round =>
    obtain ⟨k, hk, rfl, rfl, HX, z1, hown⟩ := hrel
    have HX_r := Lib.hid HX; clear HX
    by_cases hlt : k < n
    · obtain ⟨g, rfl, hg⟩ := hp.out k hlt
      obtain ⟨g', rfl, hg'⟩ := hq.out k hlt
      have c1 := HX_r.out.cell hg
      have c2 := HX_r.out.cell hg'
      clear hp hq hg hg'
      have z_1 := World.block_lt_of_cell? _ _ c1
      have z_2 := World.block_lt_of_cell? _ _ c2
      simp only at z_1 z_2
      simp only [bitsN, List.getElem_map, List.getElem_range] at c1 c2
      obtain ⟨hs1, hs2⟩ := cb_step X Y k
      have hc0 := cb_lt X Y k
      have hl0 := cb_lt X Y (k + 1)
      have hx0 : X / 2 ^ k % 2 < 2 := Nat.mod_lt _ (by decide)
      have hy0 : Y / 2 ^ k % 2 < 2 := Nat.mod_lt _ (by decide)
      have hd0 : (X + Y) / 2 ^ k % 2 < 2 := Nat.mod_lt _ (by decide)
      obtain ⟨x, hx⟩ : ∃ t, X / 2 ^ k % 2 = t := ⟨_, rfl⟩
      obtain ⟨y, hy⟩ : ∃ t, Y / 2 ^ k % 2 = t := ⟨_, rfl⟩
      obtain ⟨c, hc⟩ : ∃ t, cb X Y k = t := ⟨_, rfl⟩
      obtain ⟨d, hd⟩ : ∃ t, (X + Y) / 2 ^ k % 2 = t := ⟨_, rfl⟩
      obtain ⟨e, he⟩ : ∃ t, cb X Y (k + 1) = t := ⟨_, rfl⟩
      rw [hx] at c1 hs1 hs2 hx0
      rw [hy] at c2 hs1 hs2 hy0
      rw [hc] at hs1 hs2 hc0 ⊢
      rw [hd] at hs1 hd0
      rw [he] at hs2 hl0
      have k1 : IntKind.i64.wrap ((x : Int) + y) = (x : Int) + y := IntWalk.i64_in _ (by omega)
      have k2 : IntKind.i64.wrap ((x : Int) + y + c) = (x : Int) + y + c := IntWalk.i64_in _ (by omega)
      have k3 : ((x : Int) + y + c).tmod 2 = d := by rw [Int.tmod_eq_emod_of_nonneg (by omega)]; omega
      have k3' : ((x : Int) + y + c) % 2 = d := by omega
      have k4 : ((x : Int) + y + c).tdiv 2 = e := by rw [Int.tdiv_eq_ediv_of_nonneg (by omega)]; omega
      have k4' : ((x : Int) + y + c) / 2 = e := by omega
      have k5 : IntKind.i64.wrap (e : Int) = e := IntWalk.i64_in _ (by omega)
      have k6 : IntKind.i64.wrap (d : Int) = d := IntWalk.i64_in _ (by omega)
      have HD := Lib.hid hd; clear hd
      have HC := Lib.hid he; clear he
      clear hx hy hc hs1 hs2 hx0 hy0 hc0 hd0 hl0
      have hlt' : (k : Int) < (n : Int) := by omega
      go_wp2_with fail
      try dsimp only
      repeat (first | with_reducible refine wp_region_ext ?_ [(0, 0), (1, 0), (2, 0), (3, 1), (4, 0), (5, 0), (6, 0), (7, 1), (8, 0), (9, 0), (10, 0), (11, 0)] (fun _ => true) ?_ ?_ ?_ ?_ ?_ | go_step)
      · kernel_rfl
      · kernel_rfl
      · kernel_rfl
      · kernel_rfl
      · exact (fun _ _ d _ _ h => by cases d <;> exact h)
      refine run_pure (o := ?_) (v := ?_) (a' := ?_) ?_ ?_ ?_ ?_ ?_
      rotate_left 3
      · (simp only [List.getElem?_toArray, List.getElem?_cons_succ, List.getElem?_cons_zero] <;> rfl)
      · rfl
      · intro w'
        go_simp
        with_reducible rfl
      · simp only [Act.put, List.setIfInBounds_toArray, List.set_cons_zero, List.set_cons_succ]
        rfl
      refine run_pure (o := ?_) (v := ?_) (a' := ?_) ?_ ?_ ?_ ?_ ?_
      rotate_left 3
      · (simp only [List.getElem?_toArray, List.getElem?_cons_succ, List.getElem?_cons_zero] <;> rfl)
      · rfl
      · intro w'
        go_simp
        with_reducible rfl
      · simp only [Act.put, List.setIfInBounds_toArray, List.set_cons_zero, List.set_cons_succ]
        rfl
      refine run_pure (o := ?_) (v := ?_) (a' := ?_) ?_ ?_ ?_ ?_ ?_
      rotate_left 3
      · (simp only [List.getElem?_toArray, List.getElem?_cons_succ, List.getElem?_cons_zero] <;> rfl)
      · rfl
      · intro w'
        go_simp
        with_reducible rfl
      · simp only [Act.put, List.setIfInBounds_toArray, List.set_cons_zero, List.set_cons_succ]
        rfl
      refine run_read (o := ?_) (v := ?_) (a' := ?_) ?_ ?_ ?_ ?_ (Ext.refl _) ?_
      rotate_left 3
      · (simp only [List.getElem?_toArray, List.getElem?_cons_succ, List.getElem?_cons_zero] <;> rfl)
      · rfl
      · intro w' hw'
        obtain ⟨hc, hf⟩ := ext_cell hw'
        clear hw'
        go_simp
        with_reducible rfl
      · simp only [Act.put, List.setIfInBounds_toArray, List.set_cons_zero, List.set_cons_succ]
        rfl
      refine run_pure (o := ?_) (v := ?_) (a' := ?_) ?_ ?_ ?_ ?_ ?_
      rotate_left 3
      · (simp only [List.getElem?_toArray, List.getElem?_cons_succ, List.getElem?_cons_zero] <;> rfl)
      · rfl
      · intro w'
        go_simp
        with_reducible rfl
      · simp only [Act.put, List.setIfInBounds_toArray, List.set_cons_zero, List.set_cons_succ]
        rfl
      refine run_pure (o := ?_) (v := ?_) (a' := ?_) ?_ ?_ ?_ ?_ ?_
      rotate_left 3
      · (simp only [List.getElem?_toArray, List.getElem?_cons_succ, List.getElem?_cons_zero] <;> rfl)
      · rfl
      · intro w'
        go_simp
        with_reducible rfl
      · simp only [Act.put, List.setIfInBounds_toArray, List.set_cons_zero, List.set_cons_succ]
        rfl
      refine run_pure (o := ?_) (v := ?_) (a' := ?_) ?_ ?_ ?_ ?_ ?_
      rotate_left 3
      · (simp only [List.getElem?_toArray, List.getElem?_cons_succ, List.getElem?_cons_zero] <;> rfl)
      · rfl
      · intro w'
        go_simp
        with_reducible rfl
      · simp only [Act.put, List.setIfInBounds_toArray, List.set_cons_zero, List.set_cons_succ]
        rfl
      refine run_read (o := ?_) (v := ?_) (a' := ?_) ?_ ?_ ?_ ?_ (Ext.refl _) ?_
      rotate_left 3
      · (simp only [List.getElem?_toArray, List.getElem?_cons_succ, List.getElem?_cons_zero] <;> rfl)
      · rfl
      · intro w' hw'
        obtain ⟨hc, hf⟩ := ext_cell hw'
        clear hw'
        go_simp
        with_reducible rfl
      · simp only [Act.put, List.setIfInBounds_toArray, List.set_cons_zero, List.set_cons_succ]
        rfl
      refine run_pure (o := ?_) (v := ?_) (a' := ?_) ?_ ?_ ?_ ?_ ?_
      rotate_left 3
      · (simp only [List.getElem?_toArray, List.getElem?_cons_succ, List.getElem?_cons_zero] <;> rfl)
      · rfl
      · intro w'
        go_simp
        with_reducible rfl
      · simp only [Act.put, List.setIfInBounds_toArray, List.set_cons_zero, List.set_cons_succ]
        rfl
      refine run_pure (o := ?_) (v := ?_) (a' := ?_) ?_ ?_ ?_ ?_ ?_
      rotate_left 3
      · (simp only [List.getElem?_toArray, List.getElem?_cons_succ, List.getElem?_cons_zero] <;> rfl)
      · rfl
      · intro w'
        go_simp
        with_reducible rfl
      · simp only [Act.put, List.setIfInBounds_toArray, List.set_cons_zero, List.set_cons_succ]
        rfl
      refine run_pure (o := ?_) (v := ?_) (a' := ?_) ?_ ?_ ?_ ?_ ?_
      rotate_left 3
      · (simp only [List.getElem?_toArray, List.getElem?_cons_succ, List.getElem?_cons_zero] <;> rfl)
      · rfl
      · intro w'
        go_simp
        with_reducible rfl
      · simp only [Act.put, List.setIfInBounds_toArray, List.set_cons_zero, List.set_cons_succ]
        rfl
      refine run_pure (o := ?_) (v := ?_) (a' := ?_) ?_ ?_ ?_ ?_ ?_
      rotate_left 3
      · (simp only [List.getElem?_toArray, List.getElem?_cons_succ, List.getElem?_cons_zero] <;> rfl)
      · rfl
      · intro w'
        go_simp
        with_reducible rfl
      · simp only [Act.put, List.setIfInBounds_toArray, List.set_cons_zero, List.set_cons_succ]
        rfl
      refine run_nil (fun a1 hx => ?_)
      have hc_a1 := (ext_cell hx).1
      have hf_a1 := (ext_cell hx).2
      have HX_a1 := Lib.hid hx
      have y_a1 := hx.size
      try simp at y_a1
      clear hx
      have XA := Lib.hid (HX_r.out.trans HX_a1.out)
      have hown1 := (hown.ext HX_a1.out).ext ((Ext.refl a1).alloc (.cells #[.int .i64 d] 3))
      clear hown
      go_wp2_with (at_builtin; refine wpList_appendI rfl (.tmp 27) (.tmp 30) rfl _ w.heap.size _ _ (bitsN (X + Y) k) [(d : Int)] rfl rfl hown1 (reads_one _ _) ?c1 ?c2 ?_)
      case c1 => rw [bitsN_length]; simp; omega
      case c2 => simp; omega
      intro v' w3 hown3 hx3 hc3 hz3
      have hx3 := Lib.hid (hx3 w (Nat.le_refl _) (XA.out.alloc _))
      clear hc3 hown1
      go_wp2_with fail
      go_roundw
      case rel =>
        refine ⟨k + 1, by omega, by simp, by rw [HC.out], hx3.out, by omega, ?_⟩
        rw [bitsN_succ, HD.out]
        exact hown3
      case measure => simp [intOf]; omega
    · obtain rfl : k = n := by omega
      have hc0 := cb_lt X Y k
      obtain ⟨c, hc⟩ : ∃ t, cb X Y k = t := ⟨_, rfl⟩
      rw [hc] at hc0 ⊢
      have hown1 := hown.ext ((Ext.refl wr).alloc (.cells #[.int .i64 (c : Int)] 3))
      have HC := Lib.hid hc; clear hc
      clear hown hp hq
      go_wp2_with (at_builtin; refine wpList_appendI rfl (.tmp 34) (.tmp 36) rfl _ w.heap.size _ _ (bitsN (X + Y) k) [(c : Int)] rfl rfl hown1 (reads_one _ _) ?c1 ?c2 ?_)
      case c1 => rw [bitsN_length]; simp; omega
      case c2 => simp; omega
      intro v' w3 hown3 hx3 hc3 hz3
      have hx3 := Lib.hid (hx3 w (Nat.le_refl _) (HX_r.out.alloc _))
      clear hc3 hown1
      go_wp2_with fail
      go_ret
      refine ⟨_, rfl, ?_, hx3.out⟩
      rw [bitsN_succ, ← HE.out, HC.out]
      exact hown3
end Go.Proofs.Ytjjapblpmpidcaa
