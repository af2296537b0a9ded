import Derived.Test.YtjjapblpmpidcabY1
import Derived.Test.YtjjapblpmpidcabW5
set_option linter.unusedVariables false
set_option linter.unusedSimpArgs false
namespace Go.Proofs.Ytjjapblpmpidcab
open Go.RowKit Num UReg

/-! ### The reference of layer 1: Cmp, Same, Put -/
set_option maxHeartbeats 1000000 in
theorem rCmp {a b : V} {k : Int} (h : cmpV a b = k) (w : World) : Calls Try.prog 37 #[.agg #[.int .u64 (hi a), .int .u64 (lo a)], .agg #[.int .u64 (hi b), .int .u64 (lo b)]] w fun e w' => e = .returned (.int .i64 k) ∧ Ext w w' := by
  have hw := less_words a b
  rw [cmp_less, h] at hw
  by_cases c : a = b
  · have hk : k = 0 := by rw [← h]; exact (cmp_eq0 a b).2 c
    have t1 : decide (a = b) = true := decide_eq_true c
    clear hw h c
    subst hk
    go_enter Try.func37, Try.ntmps37
    go_wp2
    go_ret
    exact ⟨rfl, ((Ext.refl _).alloc _).alloc _⟩
  · have t1 : decide (a = b) = false := decide_eq_false c
    have hk : k ≠ 0 := by rw [← h]; exact fun e => c ((cmp_eq0 a b).1 e)
    have hr : k = -1 ∨ k = 0 ∨ k = 1 := by rw [← h]; unfold cmpV; split <;> (try split) <;> simp
    clear h c
    rcases Int.lt_trichotomy (hi a) (hi b) with g | g | g
    · have t2 : decide (hi a < hi b) = true := decide_eq_true g
      obtain rfl : k = -1 := by rw [t2] at hw; simp at hw; omega
      clear hw hk hr g
      go_enter Try.func37, Try.ntmps37
      go_wp2
      go_ret
      exact ⟨rfl, ((Ext.refl _).alloc _).alloc _⟩
    · have t2 : decide (hi a < hi b) = false := decide_eq_false (by omega)
      have t3 : decide (hi a = hi b) = true := decide_eq_true g
      have t4 : (hi a == hi b) = true := by simpa using g
      by_cases l : lo a < lo b
      · have t5 : decide (lo a < lo b) = true := decide_eq_true l
        obtain rfl : k = -1 := by rw [t2, t3, t5] at hw; simp at hw; omega
        clear hw hk hr g l
        go_enter Try.func37, Try.ntmps37
        go_wp2
        go_ret
        exact ⟨rfl, ((Ext.refl _).alloc _).alloc _⟩
      · have t5 : decide (lo a < lo b) = false := decide_eq_false l
        obtain rfl : k = 1 := by rw [t2, t3, t5] at hw; simp at hw; omega
        clear hw hk hr g l
        go_enter Try.func37, Try.ntmps37
        go_wp2
        go_ret
        exact ⟨rfl, ((Ext.refl _).alloc _).alloc _⟩
    · have t2 : decide (hi a < hi b) = false := decide_eq_false (by omega)
      have t3 : decide (hi a = hi b) = false := decide_eq_false (by omega)
      have t4 : (hi a == hi b) = false := by simp; omega
      obtain rfl : k = 1 := by rw [t2, t3] at hw; simp at hw; omega
      clear hw hk hr g
      go_enter Try.func37, Try.ntmps37
      go_wp2
      go_ret
      exact ⟨rfl, ((Ext.refl _).alloc _).alloc _⟩

set_option maxHeartbeats 1000000 in
theorem rSame (u v : Value) (xs : List Int) (hn : xs.length ≤ 1000000) (w : World) (hu : Reads w .u8 u xs) (hv : Reads w .u8 v xs) : Calls Try.prog 49 #[u, v] w fun e w' =>
    e = .returned (.bool true) ∧ Ext w w' := by
  obtain ⟨p, cp, rfl, hp⟩ := hu.flat
  obtain ⟨q, cq, rfl, hq⟩ := hv.flat
  clear hu hv
  have t0 : decide (xs.length = xs.length) = true := by simp
  go_enter Try.func49, Try.ntmps49
  go_wp2_with fail
  go_loopw [5] (fun j wr => ∃ k : Nat, k ≤ xs.length ∧ j = .int .i64 k ∧ Ext w wr)
    (fun j _ => xs.length - (intOf j).toNat)
  case atStart => exact ⟨0, by omega, rfl, by first | exact Ext.refl _ | exact (Ext.refl _).drew⟩
  case round =>
    obtain ⟨k, hk, rfl, HX⟩ := hrel
    by_cases hlt : k < xs.length
    · obtain ⟨g, rfl, hg⟩ := hp k hlt
      obtain ⟨g', rfl, hg'⟩ := hq k hlt
      have c1 := HX.cell hg
      have c2 := HX.cell hg'
      clear hp hq hg hg'
      have z_1 := World.block_lt_of_cell? _ _ c1
      have z_2 := World.block_lt_of_cell? _ _ c2
      simp only at z_1 z_2
      go_wp2_with fail
      try dsimp only
      repeat (first | with_reducible refine wp_region_ext ?_ [(0, 0), (1, 0), (2, 0), (3, 1), (4, 0), (5, 0), (6, 0), (7, 1), (8, 0)] (fun _ => true) ?_ ?_ ?_ ?_ ?_ | go_step)
      · kernel_rfl
      · kernel_rfl
      · kernel_rfl
      · kernel_rfl
      · exact (fun _ _ d _ _ h => by cases d <;> exact h)
      refine run_pure (o := ?_) (v := ?_) (a' := ?_) ?_ ?_ ?_ ?_ ?_
      rotate_left 3
      · (simp only [List.getElem?_toArray, List.getElem?_cons_succ, List.getElem?_cons_zero] <;> rfl)
      · rfl
      · intro w'
        go_simp
        with_reducible rfl
      · simp only [Act.put, List.setIfInBounds_toArray, List.set_cons_zero, List.set_cons_succ]
        rfl
      refine run_pure (o := ?_) (v := ?_) (a' := ?_) ?_ ?_ ?_ ?_ ?_
      rotate_left 3
      · (simp only [List.getElem?_toArray, List.getElem?_cons_succ, List.getElem?_cons_zero] <;> rfl)
      · rfl
      · intro w'
        go_simp
        with_reducible rfl
      · simp only [Act.put, List.setIfInBounds_toArray, List.set_cons_zero, List.set_cons_succ]
        rfl
      refine run_pure (o := ?_) (v := ?_) (a' := ?_) ?_ ?_ ?_ ?_ ?_
      rotate_left 3
      · (simp only [List.getElem?_toArray, List.getElem?_cons_succ, List.getElem?_cons_zero] <;> rfl)
      · rfl
      · intro w'
        go_simp
        with_reducible rfl
      · simp only [Act.put, List.setIfInBounds_toArray, List.set_cons_zero, List.set_cons_succ]
        rfl
      refine run_read (o := ?_) (v := ?_) (a' := ?_) ?_ ?_ ?_ ?_ (Ext.refl _) ?_
      rotate_left 3
      · (simp only [List.getElem?_toArray, List.getElem?_cons_succ, List.getElem?_cons_zero] <;> rfl)
      · rfl
      · intro w' hw'
        obtain ⟨hc, hf⟩ := ext_cell hw'
        clear hw'
        go_simp
        with_reducible rfl
      · simp only [Act.put, List.setIfInBounds_toArray, List.set_cons_zero, List.set_cons_succ]
        rfl
      refine run_pure (o := ?_) (v := ?_) (a' := ?_) ?_ ?_ ?_ ?_ ?_
      rotate_left 3
      · (simp only [List.getElem?_toArray, List.getElem?_cons_succ, List.getElem?_cons_zero] <;> rfl)
      · rfl
      · intro w'
        go_simp
        with_reducible rfl
      · simp only [Act.put, List.setIfInBounds_toArray, List.set_cons_zero, List.set_cons_succ]
        rfl
      refine run_pure (o := ?_) (v := ?_) (a' := ?_) ?_ ?_ ?_ ?_ ?_
      rotate_left 3
      · (simp only [List.getElem?_toArray, List.getElem?_cons_succ, List.getElem?_cons_zero] <;> rfl)
      · rfl
      · intro w'
        go_simp
        with_reducible rfl
      · simp only [Act.put, List.setIfInBounds_toArray, List.set_cons_zero, List.set_cons_succ]
        rfl
      refine run_pure (o := ?_) (v := ?_) (a' := ?_) ?_ ?_ ?_ ?_ ?_
      rotate_left 3
      · (simp only [List.getElem?_toArray, List.getElem?_cons_succ, List.getElem?_cons_zero] <;> rfl)
      · rfl
      · intro w'
        go_simp
        with_reducible rfl
      · simp only [Act.put, List.setIfInBounds_toArray, List.set_cons_zero, List.set_cons_succ]
        rfl
      refine run_read (o := ?_) (v := ?_) (a' := ?_) ?_ ?_ ?_ ?_ (Ext.refl _) ?_
      rotate_left 3
      · (simp only [List.getElem?_toArray, List.getElem?_cons_succ, List.getElem?_cons_zero] <;> rfl)
      · rfl
      · intro w' hw'
        obtain ⟨hc, hf⟩ := ext_cell hw'
        clear hw'
        go_simp
        with_reducible rfl
      · simp only [Act.put, List.setIfInBounds_toArray, List.set_cons_zero, List.set_cons_succ]
        rfl
      refine run_pure (o := ?_) (v := ?_) (a' := ?_) ?_ ?_ ?_ ?_ ?_
      rotate_left 3
      · (simp only [List.getElem?_toArray, List.getElem?_cons_succ, List.getElem?_cons_zero] <;> rfl)
      · rfl
      · intro w'
        go_simp
        with_reducible rfl
      · simp only [Act.put, List.setIfInBounds_toArray, List.set_cons_zero, List.set_cons_succ]
        rfl
      refine run_nil (fun a1 hx => ?_)
      have hc_a1 := (ext_cell hx).1
      have hf_a1 := (ext_cell hx).2
      have HX_a1 := Lib.hid hx
      have y_a1 := hx.size
      try simp at y_a1
      clear hx
      go_wp2_with fail
      go_roundw
      case rel => exact ⟨k + 1, by omega, by simp, HX.trans HX_a1.out⟩
      case measure => simp [intOf]; omega
    · go_wp2_with fail
      go_ret
      exact ⟨rfl, HX⟩

/-! Put -/
def bytesTo (a : V) (i : Nat) : List Int := (List.range i).map (byteV a)
theorem bytesTo_succ (a : V) (i : Nat) : bytesTo a (i + 1) = bytesTo a i ++ [byteV a i] := by simp [bytesTo, List.range_succ]
theorem bytesTo_length (a : V) (i : Nat) : (bytesTo a i).length = i := by simp [bytesTo]
theorem BitsAt.grew {W w' : World} {acc v' : Value} {g n : Nat} (h : Grew W w' acc v') (hb : acc.ownBlock ≠ some g) (c : BitsAt W g n) : BitsAt w' g n := fun j hj => by
  have c1 := c j hj
  have hlt : g < W.heap.size := World.block_lt_of_cell? W ⟨g, j, none⟩ c1
  exact (World.cell?_of_block (w := W) (a := ⟨g, j, none⟩) (h.block g hlt hb)).trans c1
/-- So many of a byte's highest bits. -/
def hb (n i m : Nat) : Nat := n / 2 ^ (8 * i + 8 - m) % 2 ^ m
theorem hb_0 (n i : Nat) : hb n i 0 = 0 := by simp [hb, Nat.mod_one]
theorem hb_8 (a : V) (i : Nat) : ((hb a.toNat i 8 : Nat) : Int) = byteV a i := by rw [byteV_nat]; rfl
theorem hb_succ (n i m : Nat) (hm : m < 8) : hb n i (m + 1) = 2 * hb n i m + n / 2 ^ (8 * i + (7 - m)) % 2 := by
  unfold hb
  have e1 : 8 * i + 8 - (m + 1) = 8 * i + (7 - m) := by omega
  have e2 : 8 * i + 8 - m = 8 * i + (7 - m) + 1 := by omega
  rw [e1, e2, Nat.pow_succ 2 (8 * i + (7 - m)), ← Nat.div_div_eq_div_mul, Nat.pow_succ']
  generalize n / 2 ^ (8 * i + (7 - m)) = y
  rw [Nat.mod_mul]
  omega
theorem hb_lt (n i m : Nat) (hm : m ≤ 8) : hb n i m < 256 := by
  have h1 : hb n i m < 2 ^ m := Nat.mod_lt _ (Nat.two_pow_pos m)
  have h2 : (2 : Nat) ^ m ≤ 2 ^ 8 := Nat.pow_le_pow_right (by decide) hm
  omega
set_option maxHeartbeats 4000000 in
theorem rPut (a : V) (w : World) : Calls Try.prog 51 #[.agg #[.int .u64 (hi a), .int .u64 (lo a)]] w fun e w' =>
    ∃ v, e = .returned v ∧ Reads w' .u8 v (bytesV a) ∧ Ext w w' := by
  go_enter Try.func51, Try.ntmps51
  go_wp2_with fail
  have hown0 := OwnK.lit .u8 5 (w.alloc (.cells #[.int .u64 (hi a), .int .u64 (lo a)] 31)) (w.heap.size + 1) [] (by simp) (by simp)
  simp only [List.map_nil, List.length_nil] at hown0
  refine (rList _ _).mono ?_
  rintro e w1 ⟨v, rfl, hown, hx⟩
  obtain ⟨g, cap, rfl, hg, hg2, hc⟩ := own_list hown
  simp at hg
  have hO1 := Lib.hid (hown0.ext hx)
  have HB1 := Lib.hid (show BitsAt w1 g a.toNat from hc)
  have X1 := Lib.hid ((((Ext.refl w).alloc _).alloc _).trans hx)
  have y1 := hx.size
  simp at y1
  clear hx hown hc hown0
  go_wp2_with fail
  go_loopw [3, 5, 6, 7] (fun out iv n kv wr => ∃ i : Nat, i ≤ 16 ∧ iv = .int .i64 i ∧ Ext w wr ∧ g < wr.heap.size ∧ OwnK .u8 5 wr (w.heap.size + 1) out (bytesTo a i) ∧ out.ownBlock ≠ some g ∧ BitsAt wr g a.toNat)
    (fun _ iv _ _ _ => 16 - (intOf iv).toNat)
  case atStart =>
    refine ⟨0, by omega, rfl, X1.out, hg2, ?_, ?_, HB1.out⟩
    · simpa [bytesTo] using hO1.out
    · simp [Value.ownBlock]; omega
  case round =>
    clear hO1 HB1
    obtain ⟨i, hi', rfl, HX, z1, hown, hne, hbits⟩ := hrel
    have HX_r := Lib.hid HX; clear HX
    have HO := Lib.hid hown; clear hown
    have HN := Lib.hid hne; clear hne
    have HBt := Lib.hid hbits; clear hbits
    by_cases hlt : i < 16
    · have hlt' : (i : Int) < 16 := by omega
      go_wp2_with fail
      go_loopw [6, 7] (fun n kv wq => ∃ m : Nat, m ≤ 8 ∧ kv = .int .i64 (7 - (m : Int)) ∧ n = .int .i64 (hb a.toNat i m : Nat) ∧ wq = wr)
        (fun _ kv _ => (intOf kv + 1).toNat)
      case atStart => exact ⟨0, by omega, rfl, by rw [hb_0]; rfl, rfl⟩
      case round =>
        obtain ⟨m, hm, rfl, rfl, rfl⟩ := hrel
        have hl := hb_lt a.toNat i m hm
        by_cases hml : m < 8
        · have hs := hb_succ a.toNat i m hml
          obtain ⟨j, hj⟩ : ∃ j : Int, 7 - (m : Int) = j := ⟨_, rfl⟩
          obtain ⟨q, hq⟩ : ∃ q, 8 * i + (7 - m) = q := ⟨_, rfl⟩
          obtain ⟨x, hx⟩ : ∃ x : Int, ((a.toNat / 2 ^ q % 2 : Nat) : Int) = x := ⟨_, rfl⟩
          obtain ⟨n, hn⟩ : ∃ n : Int, ((hb a.toNat i m : Nat) : Int) = n := ⟨_, rfl⟩
          have hcell := HBt.out q (by omega)
          rw [hx] at hcell
          rw [hq] at hs
          have x0 : 0 ≤ x ∧ x ≤ 1 := by omega
          have n0 : 0 ≤ n ∧ n < 256 := by omega
          rw [hj, hn]
          have j0 : 0 ≤ j := by omega
          have k1 : IntKind.i64.wrap (2 * n) = 2 * n := IntWalk.i64_in _ (by omega)
          have k2 : IntKind.i64.wrap (8 * (i : Int)) = 8 * (i : Int) := IntWalk.i64_in _ (by omega)
          have k3 : 8 * (i : Int) + j = (q : Int) := by omega
          have k4 : IntKind.i64.wrap (8 * (i : Int) + j) = (q : Int) := by rw [k3]; exact IntWalk.i64_in _ (by omega)
          have k5 : IntKind.i64.wrap (2 * n + x) = 2 * n + x := IntWalk.i64_in _ (by omega)
          have k6 : IntKind.i64.wrap (q : Int) = (q : Int) := IntWalk.i64_in _ (by omega)
          have hq128 : (q : Int) < 128 := by omega
          have HS := Lib.hid (show ((hb a.toNat i (m + 1) : Nat) : Int) = 2 * n + x by rw [hs]; omega)
          have HJ := Lib.hid hj; clear hj
          clear hx hn hs hq x0 n0 hl
          go_wp2_with fail
          go_roundw
          case rel =>
            have := HJ.out
            exact ⟨m + 1, by omega, by congr 1; omega, by rw [HS.out], trivial⟩
          case measure => simp [intOf]; omega
        · have e : m = 8 := by omega
          subst e
          rw [hb_8]
          obtain ⟨x, hx⟩ : ∃ x, byteV a i = x := ⟨_, rfl⟩
          have hx1 : 0 ≤ x ∧ x ≤ 255 := by rw [← hx, byteV_nat]; omega
          have k1 : IntKind.u8.wrap x = x := IntWalk.u8_in _ (by omega)
          rw [hx]
          have HX := Lib.hid hx; clear hx
          clear hl hx1
          have hown1 := HO.out.ext ((Ext.refl wr).alloc (.cells #[.int .u8 x] 5))
          have hb1 := BitsAt.ext HBt.out ((Ext.refl wr).alloc (.cells #[.int .u8 x] 5))
          have X1 := Lib.hid (HX_r.out.alloc (.cells #[.int .u8 x] 5))
          have HZ := Lib.hid (show w.heap.size + 1 ≤ (wr.alloc (.cells #[.int .u8 x] 5)).heap.size by simp; omega)
          have HL := Lib.hid (bytesTo_length a i)
          go_wp2_with (at_builtin; refine wpList_appendK (k := .u8) (bytes := 1) Try.underlying60 (by kernel_rfl) (by decide) rfl (.tmp 29) (.tmp 32) rfl _ (w.heap.size + 1) _ _ (bytesTo a i) [x] rfl rfl hown1 (reads_oneK _ _ _ _) (by rw [HL.out]; simp; omega) HZ.out ?_)
          intro v' w6 hown6 hg6
          have hne6 := Lib.hid (hg6.ne HN.out (by simp; omega))
          have hb6 := BitsAt.grew hg6 HN.out hb1
          have X6 := Lib.hid (hg6.ext X1.out (fun k hk => by have := hown1.ge k hk; omega))
          have z6 := hg6.size
          simp at z6
          have HO6 := Lib.hid hown6
          have HB6 := Lib.hid hb6
          clear hg6 hown6 hb6 hown1 hb1 X1
          go_wp2_with fail
          go_roundw
          case rel => exact ⟨i + 1, by omega, by simp, X6.out, by omega, by rw [bytesTo_succ, HX.out]; exact HO6.out, hne6.out, HB6.out⟩
          case measure => simp [intOf]; omega
    · go_wp2_with fail
      go_ret
      obtain rfl : i = 16 := by omega
      exact ⟨_, rfl, HO.out.reads, HX_r.out⟩
end Go.Proofs.Ytjjapblpmpidcab
