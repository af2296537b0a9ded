import Derived.Test.YtjjapblpmpidcabW6
import Derived.Test.YtjjapblpmpidcabV
import Derived.OwnWalk
set_option linter.unusedVariables false
set_option linter.unusedSimpArgs false
namespace Go.Proofs.Ytjjapblpmpidcab
open Go.RowKit Num UReg

/-! ### wide: Put, Take -/
def byteV (a : V) (k : Nat) : Int := lo (shr a (8 * (k : Int))) % 256
def bytesV (a : V) : List Int := (List.range 16).map (byteV a)
theorem bytesV_length (a : V) : (bytesV a).length = 16 := by simp [bytesV]
def putTo (a : V) (i : Nat) : List Value := (List.range 16).map fun k => .int .u8 (if k < i then byteV a k else 0)
theorem putTo_length (a : V) (i : Nat) : (putTo a i).length = 16 := by simp [putTo]
theorem putTo_succ (a : V) (i : Nat) : (putTo a i).set i (.int .u8 (byteV a i)) = putTo a (i + 1) := by
  apply List.ext_getElem
  · simp [putTo]
  · intro k h1 h2
    simp only [putTo, List.getElem_set, List.getElem_map, List.getElem_range]
    by_cases h : i = k
    · subst h; simp
    · rw [if_neg h]
      congr 1
      by_cases h3 : k < i
      · rw [if_pos h3, if_pos (by omega)]
      · rw [if_neg h3, if_neg (by omega)]
theorem putTo_16 (a : V) : putTo a 16 = (bytesV a).map (Value.int .u8) := by
  simp only [putTo, bytesV, List.map_map]
  apply List.map_congr_left
  intro k hk
  simp at hk
  simp [hk]
theorem UReg.Reads.of_cells {w : World} {g cap : Nat} {k : IntKind} {xs : List Int} (h : Cells w g (xs.map (Value.int k))) : Reads w k (.slice (some ⟨g, 0, none⟩) xs.length cap) xs :=
  .inr ⟨g, cap, rfl, fun j hj => by have := (h j (by simpa using hj)).1; simpa using this⟩

theorem mk16 (w : World) : (Instr.makeSlice 60 (.int .i64 16) (.int .i64 16)).run Try.prog w =
    .ok (.slice (some ⟨w.heap.size, 0, none⟩) 16 16) (w.alloc (.cells ((putTo 0#128 0).toArray) 5)) := by kernel_rfl
attribute [go_sem] mk16
theorem Cells.new (w : World) (xs : List Value) (t : TypeId) : Cells (w.alloc (.cells xs.toArray t)) w.heap.size xs := fun j hj => by
  constructor
  · simp [hj]
  · simp
set_option maxRecDepth 20000 in
set_option maxHeartbeats 1000000 in
theorem wPut (a : V) (w : World) : Calls Try.prog 50 #[.agg #[.int .u64 (hi a), .int .u64 (lo a)]] w fun e w' =>
    ∃ v, e = .returned v ∧ Reads w' .u8 v (bytesV a) ∧ Ext w w' := by
  go_enter Try.func50, Try.ntmps50
  go_wp2_with fail
  go_loopw [4, 8] (fun v4 j wr => ∃ i : Nat, i ≤ 16 ∧ j = .int .i64 i ∧ Ext w wr ∧ w.heap.size + 1 < wr.heap.size
      ∧ Cells wr w.heap.size [.int .u64 (hi a), .int .u64 (lo a)] ∧ Cells wr (w.heap.size + 1) (putTo a i))
    (fun _ j _ => 16 - (intOf j).toNat)
  case atStart =>
    refine ⟨0, by omega, rfl, (((Ext.refl _).alloc _).alloc _), by simp, Cells.mk2 (by go_simp <;> rfl) (by go_simp <;> rfl) (by go_simp) (by go_simp), ?_⟩
    have h := Cells.new (w.alloc (.cells #[.int .u64 (hi a), .int .u64 (lo a)] 24)) (putTo 0#128 0) 5
    have e : putTo 0#128 0 = putTo a 0 := by simp [putTo]
    rw [e] at h ⊢
    simpa using h
  case round =>
    obtain ⟨i, hi', rfl, HX, z1, hs, hb⟩ := hrel
    have HX_r := Lib.hid HX
    clear HX
    have z0 : w.heap.size < wr.heap.size := by omega
    obtain ⟨s0, s1, sf0, sf1⟩ := hs.two
    by_cases hlt : i < 16
    · go_wp2_with fail
      refine (wRight _ _ _).mono ?_
      rintro e w2 ⟨rfl, hx⟩
      have hs2 := hs.ext hx
      have hb2 := hb.ext hx
      have X2 := Lib.hid (HX_r.out.trans hx)
      have y2 := hx.size
      clear hx hs hb s0 s1 sf0 sf1
      obtain ⟨bc, bf⟩ := hb2 i (by rw [putTo_length]; omega)
      go_wp2_with fail
      go_roundw
      case rel =>
        refine ⟨i + 1, by omega, by simp, ?_, by simp; omega, hs2.other (by omega) _ _, ?_⟩
        · exact X2.out.setCell (by simp) _
        · rw [← putTo_succ]
          have e : IntKind.u8.wrap (lo (shr a (8 * (i : Int)))) = byteV a i := by rw [IntKind.wrap_u8]; rfl
          first
            | exact hb2.set i _
            | (rw [e]; exact hb2.set i _)
      case measure => simp [intOf]; omega
    · go_wp2_with fail
      go_ret
      have e : i = 16 := by omega
      subst e
      rw [putTo_16] at hb
      have r := Reads.of_cells (cap := 16) hb
      rw [bytesV_length] at r
      exact ⟨_, rfl, r, HX_r.out⟩

/-! Take -/
def takeTo (xs : List Int) : Nat → V
  | 0 => 0#128
  | i + 1 => takeTo xs i + shl (of (xs[i]?.getD 0)) (8 * (i : Int))
theorem wTake_bad (v : Value) (xs : List Int) (w : World) (hr : Reads w .u8 v xs) (hn : xs.length ≠ 16) (hm : xs.length ≤ 1000000) : Calls Try.prog 34 #[v] w fun e w' =>
    e = .returned (.tuple #[.agg #[.int .u64 0, .int .u64 0], .int .i64 11]) ∧ Ext w w' := by
  obtain ⟨p, cp, rfl, hp⟩ := hr.flat
  clear hr hp
  have t : decide ((xs.length : Int) = 16) = false := decide_eq_false (by omega)
  have t2 : ((xs.length : Int) == 16) = false := by simp; omega
  have t3 : ((xs.length : Int) != 16) = true := by simp; omega
  go_enter Try.func34, Try.ntmps34
  go_wp2_with fail
  refine bodyPost_ret (v := ?_) ?_ rfl ⟨?_, ?_⟩
  rotate_left
  · simp only [results, Try.results34]
    go_simp
    with_reducible rfl
  · rfl
  · repeat (first | exact Ext.refl _ | refine Ext.alloc ?_ _ | (refine Ext.setCell ?_ (by simp <;> omega) _) | refine Ext.drew ?_)
set_option maxHeartbeats 2000000 in
theorem wTake_ok (v : Value) (xs : List Int) (w : World) (hr : Reads w .u8 v xs) (hn : xs.length = 16) (hb : ∀ x ∈ xs, 0 ≤ x ∧ x ≤ 255) : Calls Try.prog 34 #[v] w fun e w' =>
    e = .returned (.tuple #[.agg #[.int .u64 (hi (takeTo xs 16)), .int .u64 (lo (takeTo xs 16))], .int .i64 0]) ∧ Ext w w' := by
  obtain ⟨p, cp, rfl, hp⟩ := hr.flat
  clear hr
  rw [hn]
  obtain ⟨g, rfl, hz⟩ := hp 0 (by omega)
  clear hz
  have hg : ∀ j, j < 16 → w.cell? ⟨g, j, none⟩ = some (.int .u8 (xs[j]?.getD 0)) := fun j hj => by
    obtain ⟨g', e, h⟩ := hp j (by omega)
    obtain rfl : g = g' := by injection e with e; injection e
    rw [h]
    simp [show j < xs.length by omega]
  have hx : ∀ j, j < 16 → 0 ≤ xs[j]?.getD 0 ∧ xs[j]?.getD 0 ≤ 255 := fun j hj => by
    have h1 : j < xs.length := by omega
    simp only [List.getElem?_eq_getElem h1, Option.getD_some]
    exact hb _ (List.getElem_mem h1)
  have HG := Lib.hid hg
  have HB := Lib.hid hx
  have zg : g < w.heap.size := World.block_lt_of_cell? _ ⟨g, 0, none⟩ (hg 0 (by omega))
  clear hp hg hx hb
  have HN := Lib.hid hn
  clear hn
  go_enter Try.func34, Try.ntmps34
  go_wp2_with fail
  go_loopw [5, 6, 13] (fun v5 v6 j wr => ∃ i : Nat, i ≤ 16 ∧ j = .int .i64 i ∧ Ext w wr ∧ w.heap.size + 1 < wr.heap.size
      ∧ Cells wr w.heap.size [.int .u64 0, .int .u64 0] ∧ Cells wr (w.heap.size + 1) [.int .u64 (hi (takeTo xs i)), .int .u64 (lo (takeTo xs i))])
    (fun _ _ j _ => 16 - (intOf j).toNat)
  case atStart =>
    exact ⟨0, by omega, rfl, (((Ext.refl _).alloc _).alloc _), by simp, Cells.mk2 (by go_simp <;> rfl) (by go_simp <;> rfl) (by go_simp) (by go_simp), Cells.mk2 (by rw [show hi (takeTo xs 0) = 0 from hi_zero]; go_simp <;> rfl) (by rw [show lo (takeTo xs 0) = 0 from lo_zero]; go_simp <;> rfl) (by go_simp) (by go_simp)⟩
  case round =>
    obtain ⟨i, hi', rfl, HX, z1, hs, hc⟩ := hrel
    have z0 : w.heap.size < wr.heap.size := by omega
    have zg' : g < wr.heap.size := by omega
    by_cases hlt : i < 16
    · have ci := HX.cell (HG.out i hlt)
      obtain ⟨b0, b1⟩ := HB.out i hlt
      have HX_r := Lib.hid HX
      clear HX
      obtain ⟨s0, s1, sf0, sf1⟩ := hs.two
      obtain ⟨c0, c1, cf0, cf1⟩ := hc.two
      obtain ⟨y, hy⟩ : ∃ y, xs[i]?.getD 0 = y := ⟨_, rfl⟩
      rw [hy] at ci b0 b1
      have HY := Lib.hid hy
      clear hy
      have HO : ∀ w, Calls Try.prog 21 #[.int .u64 (IntKind.u64.wrap y)] w fun e w' => e = .returned (.agg #[.int .u64 (hi (of y)), .int .u64 (lo (of y))]) ∧ Ext w w' := by
        intro w
        rw [IntWalk.u64_in _ (by omega)]
        exact wOf _ (by unfold Word; omega) w
      have HO := Lib.hid HO
      have HL : ∀ w, Calls Try.prog 41 #[.agg #[.int .u64 (hi (of y)), .int .u64 (lo (of y))], .int .i64 (IntKind.i64.wrap (8 * (i : Int)))] w fun e w' =>
          e = .returned (.agg #[.int .u64 (hi (shl (of y) (8 * (i : Int)))), .int .u64 (lo (shl (of y) (8 * (i : Int))))]) ∧ Ext w w' := by
        intro w
        rw [IntWalk.i64_in _ (by omega)]
        exact wLeft _ _ w
      have HL := Lib.hid HL
      go_wp2_with fail
      try dsimp only
      repeat (first | with_reducible refine wp_region_ext ?_ [(0, 1), (1, 0), (2, 0), (3, 1), (4, 0), (5, 0), (6, 1), (7, 1), (8, 0), (9, 0), (10, 0), (11, 2)] (fun i => !(i == 11)) ?_ ?_ ?_ ?_ ?_ | go_step)
      · kernel_rfl
      · kernel_rfl
      · kernel_rfl
      · kernel_rfl
      · exact (fun _ _ d _ _ h => by cases d <;> exact h)
      refine run_read (o := ?_) (v := ?_) (a' := ?_) ?_ ?_ ?_ ?_ (Ext.refl _) ?_
      rotate_left 3
      · (simp only [List.getElem?_toArray, List.getElem?_cons_succ, List.getElem?_cons_zero] <;> rfl)
      · rfl
      · intro w' hw'
        obtain ⟨hc, hf⟩ := ext_cell hw'
        clear hw'
        go_simp
        with_reducible rfl
      · simp only [Act.put, List.setIfInBounds_toArray, List.set_cons_zero, List.set_cons_succ]
        rfl
      refine run_pure (o := ?_) (v := ?_) (a' := ?_) ?_ ?_ ?_ ?_ ?_
      rotate_left 3
      · (simp only [List.getElem?_toArray, List.getElem?_cons_succ, List.getElem?_cons_zero] <;> rfl)
      · rfl
      · intro w'
        go_simp
        with_reducible rfl
      · simp only [Act.put, List.setIfInBounds_toArray, List.set_cons_zero, List.set_cons_succ]
        rfl
      refine run_pure (o := ?_) (v := ?_) (a' := ?_) ?_ ?_ ?_ ?_ ?_
      rotate_left 3
      · (simp only [List.getElem?_toArray, List.getElem?_cons_succ, List.getElem?_cons_zero] <;> rfl)
      · rfl
      · intro w'
        go_simp
        with_reducible rfl
      · simp only [Act.put, List.setIfInBounds_toArray, List.set_cons_zero, List.set_cons_succ]
        rfl
      refine run_call (f := 21) (args := ?_) (o := ?_) (v := ?_) (a' := ?_) ?_ ?_ ?_ ?_ ?_ (Ext.refl _) ?_
      rotate_left 4
      · (simp only [List.getElem?_toArray, List.getElem?_cons_succ, List.getElem?_cons_zero] <;> rfl)
      · rfl
      · intro w'
        go_simp
        with_reducible rfl
      · intro w' _
        exact (HO.out _)
      · simp only [Act.put, List.setIfInBounds_toArray, List.set_cons_zero, List.set_cons_succ]
        rfl
      refine run_pure (o := ?_) (v := ?_) (a' := ?_) ?_ ?_ ?_ ?_ ?_
      rotate_left 3
      · (simp only [List.getElem?_toArray, List.getElem?_cons_succ, List.getElem?_cons_zero] <;> rfl)
      · rfl
      · intro w'
        go_simp
        with_reducible rfl
      · simp only [Act.put, List.setIfInBounds_toArray, List.set_cons_zero, List.set_cons_succ]
        rfl
      refine run_pure (o := ?_) (v := ?_) (a' := ?_) ?_ ?_ ?_ ?_ ?_
      rotate_left 3
      · (simp only [List.getElem?_toArray, List.getElem?_cons_succ, List.getElem?_cons_zero] <;> rfl)
      · rfl
      · intro w'
        go_simp
        with_reducible rfl
      · simp only [Act.put, List.setIfInBounds_toArray, List.set_cons_zero, List.set_cons_succ]
        rfl
      refine run_call (f := 41) (args := ?_) (o := ?_) (v := ?_) (a' := ?_) ?_ ?_ ?_ ?_ ?_ (Ext.refl _) ?_
      rotate_left 4
      · (simp only [List.getElem?_toArray, List.getElem?_cons_succ, List.getElem?_cons_zero] <;> rfl)
      · rfl
      · intro w'
        go_simp
        with_reducible rfl
      · intro w' _
        exact (HL.out _)
      · simp only [Act.put, List.setIfInBounds_toArray, List.set_cons_zero, List.set_cons_succ]
        rfl
      refine run_call (f := 29) (args := ?_) (o := ?_) (v := ?_) (a' := ?_) ?_ ?_ ?_ ?_ ?_ (Ext.refl _) ?_
      rotate_left 4
      · (simp only [List.getElem?_toArray, List.getElem?_cons_succ, List.getElem?_cons_zero] <;> rfl)
      · rfl
      · intro w'
        go_simp
        with_reducible rfl
      · intro w' _
        exact (wAdd _ _ _)
      · simp only [Act.put, List.setIfInBounds_toArray, List.set_cons_zero, List.set_cons_succ]
        rfl
      refine run_pure (o := ?_) (v := ?_) (a' := ?_) ?_ ?_ ?_ ?_ ?_
      rotate_left 3
      · (simp only [List.getElem?_toArray, List.getElem?_cons_succ, List.getElem?_cons_zero] <;> rfl)
      · rfl
      · intro w'
        go_simp
        with_reducible rfl
      · simp only [Act.put, List.setIfInBounds_toArray, List.set_cons_zero, List.set_cons_succ]
        rfl
      refine run_pure (o := ?_) (v := ?_) (a' := ?_) ?_ ?_ ?_ ?_ ?_
      rotate_left 3
      · (simp only [List.getElem?_toArray, List.getElem?_cons_succ, List.getElem?_cons_zero] <;> rfl)
      · rfl
      · intro w'
        go_simp
        with_reducible rfl
      · simp only [Act.put, List.setIfInBounds_toArray, List.set_cons_zero, List.set_cons_succ]
        rfl
      refine run_pure (o := ?_) (v := ?_) (a' := ?_) ?_ ?_ ?_ ?_ ?_
      rotate_left 3
      · (simp only [List.getElem?_toArray, List.getElem?_cons_succ, List.getElem?_cons_zero] <;> rfl)
      · rfl
      · intro w'
        go_simp
        with_reducible rfl
      · simp only [Act.put, List.setIfInBounds_toArray, List.set_cons_zero, List.set_cons_succ]
        rfl
      refine run_do (o := ?_) ?_ ?_ (fun a1 hx K hK => ?_)
      rotate_left
      · (simp only [List.getElem?_toArray, List.getElem?_cons_succ, List.getElem?_cons_zero] <;> rfl)
      · rfl
      have hc_a1 := (ext_cell hx).1
      have hf_a1 := (ext_cell hx).2
      have HX_a1 := Lib.hid hx
      have y_a1 := hx.size
      try simp at y_a1
      have z_a1_w_0 : w.heap.size < a1.heap.size := by omega
      have z_a1_w_1 : w.heap.size + 1 < a1.heap.size := by omega
      clear hx
      go_simp
      refine hK _ _ (fun h => absurd h (by decide)) ?_
      clear hK K
      refine run_nil (fun a2 hx => ?_)
      have hc_a2 := (ext_cell hx).1
      have hf_a2 := (ext_cell hx).2
      have HX_a2 := Lib.hid hx
      have y_a2 := hx.size
      try simp at y_a2
      have z_a2_w_0 : w.heap.size < a2.heap.size := by omega
      have z_a2_w_1 : w.heap.size + 1 < a2.heap.size := by omega
      clear hx
      go_wp2_with fail
      go_roundw
      case rel =>
        refine ⟨i + 1, by omega, by simp, ?_, by omega, ?_, ?_⟩
        · repeat (first | exact HX_r.out | (refine Ext.setCell ?_ (by simp) _) | refine Ext.trans ?_ HX_a2.out | refine Ext.trans ?_ HX_a1.out)
        · refine Cells.ext ?_ HX_a2.out
          exact ((hs.ext HX_a1.out).other (by omega) _ _).other (by omega) _ _
        · refine Cells.ext ?_ HX_a2.out
          have h := ((hc.ext HX_a1.out).set 0 (.int .u64 (hi (takeTo xs i + shl (of y) (8 * (i : Int)))))).set 1 (.int .u64 (lo (takeTo xs i + shl (of y) (8 * (i : Int)))))
          rw [show takeTo xs (i + 1) = takeTo xs i + shl (of y) (8 * (i : Int)) from by rw [takeTo, HY.out]]
          exact h
      case measure => simp [intOf]; omega
    · have HX_r := Lib.hid HX
      clear HX
      obtain ⟨s0, s1, sf0, sf1⟩ := hs.two
      obtain ⟨c0, c1, cf0, cf1⟩ := hc.two
      have e : i = 16 := by omega
      subst e
      go_wp2_with fail
      refine bodyPost_ret (v := ?_) ?_ rfl ⟨?_, ?_⟩
      rotate_left
      · simp only [results, Try.results34]
        go_simp
        with_reducible rfl
      · rfl
      · repeat (first | exact HX_r.out | (refine Ext.setCell ?_ (by simp) _))
theorem byteV_nat (a : V) (k : Nat) : byteV a k = ((a.toNat / 2 ^ (8 * k) % 256 : Nat) : Int) := by
  unfold byteV lo
  rw [toNat_shr, show (8 * (k : Int)).toNat = 8 * k from by omega]
  omega
theorem toNat_of_byte (n m : Nat) (hn : n < 256) (hm : m ≤ 120) : (shl (of (n : Int)) (m : Int)).toNat = n * 2 ^ m := by
  have h1 : (of (n : Int)).toNat = n := by
    unfold of mk
    rw [BitVec.toNat_ofInt]
    omega
  have h2 : n * 2 ^ m < 2 ^ 8 * 2 ^ 120 := Nat.mul_lt_mul_of_lt_of_le (by omega) (Nat.pow_le_pow_right (by omega) hm) (Nat.two_pow_pos _)
  rw [toNat_shl, h1, show ((m : Int)).toNat = m from rfl]
  exact Nat.mod_eq_of_lt (Nat.lt_of_lt_of_le h2 (by decide))
theorem take_put (a : V) : ∀ i, i ≤ 16 → (takeTo (bytesV a) i).toNat = a.toNat % 2 ^ (8 * i)
  | 0, _ => by simp [takeTo, Nat.mod_one]
  | i + 1, h => by
    have hb : (bytesV a)[i]?.getD 0 = byteV a i := by
      simp [bytesV, show i < 16 by omega]
    rw [takeTo, hb, byteV_nat, BitVec.toNat_add, take_put a i (by omega)]
    rw [show (8 * (i : Int)) = ((8 * i : Nat) : Int) from by omega, toNat_of_byte _ _ (Nat.mod_lt _ (by omega)) (by omega)]
    have h1 : 8 * (i + 1) = 8 * i + 8 := by omega
    have h2 : a.toNat % (2 ^ (8 * i) * 2 ^ 8) = a.toNat % 2 ^ (8 * i) + 2 ^ (8 * i) * (a.toNat / 2 ^ (8 * i) % 2 ^ 8) := Nat.mod_mul
    have h3 : a.toNat % 2 ^ (8 * (i + 1)) ≤ a.toNat := Nat.mod_le _ _
    have h4 := a.isLt
    rw [h1, Nat.pow_add] at h3 ⊢
    rw [h2] at h3 ⊢
    rw [show (2 : Nat) ^ 8 = 256 from rfl] at h3 ⊢
    rw [Nat.mul_comm (a.toNat / 2 ^ (8 * i) % 256)]
    exact Nat.mod_eq_of_lt (by omega)
theorem take_put_all (a : V) : takeTo (bytesV a) 16 = a := by
  apply BitVec.eq_of_toNat_eq
  rw [take_put a 16 (by omega)]
  exact Nat.mod_eq_of_lt a.isLt
theorem bytesV_bounds (a : V) : ∀ x ∈ bytesV a, 0 ≤ x ∧ x ≤ 255 := by
  intro x hx
  simp only [bytesV, List.mem_map] at hx
  obtain ⟨k, _, rfl⟩ := hx
  unfold byteV
  omega
end Go.Proofs.Ytjjapblpmpidcab
