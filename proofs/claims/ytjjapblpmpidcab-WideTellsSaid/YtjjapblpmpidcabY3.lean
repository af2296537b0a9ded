import Derived.Test.YtjjapblpmpidcabY2
set_option linter.unusedVariables false
set_option linter.unusedSimpArgs false
namespace Go.Proofs.Ytjjapblpmpidcab
open Go.RowKit Num UReg

/-! ### The reference of layer 1: Take -/
theorem bitsN_app (n k m : Nat) : bitsN (n % 2 ^ k) k ++ bitsN (n / 2 ^ k) m = bitsN n (k + m) := by
  unfold bitsN
  rw [List.range_add, List.map_append, List.map_map]
  congr 1
  · apply List.map_congr_left
    intro i hi
    simp only [List.mem_range] at hi
    have e : 2 ^ k = 2 ^ i * 2 ^ (k - i) := by rw [← Nat.pow_add]; congr 1; omega
    have e2 : 2 ^ (k - i) = 2 * 2 ^ (k - i - 1) := by rw [← Nat.pow_succ']; congr 1; omega
    rw [e, Nat.mod_mul_right_div_self, e2, Nat.mod_mul_right_mod]
  · apply List.map_congr_left
    intro i _
    simp only [Function.comp]
    rw [Nat.div_div_eq_div_mul, ← Nat.pow_add]
theorem bitsN_take (n k m : Nat) (h : m ≤ k) : (bitsN n k).take m = bitsN n m := by
  unfold bitsN
  rw [← List.map_take, List.take_range, Nat.min_eq_left h]
theorem take_lt (xs : List Int) (hb : ∀ x ∈ xs, 0 ≤ x ∧ x ≤ 255) : ∀ i, i ≤ 16 → (takeTo xs i).toNat < 2 ^ (8 * i)
  | 0, _ => by simp [takeTo]
  | i + 1, h => by
    have ih := take_lt xs hb i (by omega)
    obtain ⟨x, hx⟩ : ∃ x, xs[i]?.getD 0 = x := ⟨_, rfl⟩
    have hx2 : 0 ≤ x ∧ x ≤ 255 := by
      rw [← hx]
      cases h2 : xs[i]? with
      | none => simp
      | some y => simpa using hb y (List.mem_of_getElem? h2)
    obtain ⟨n, rfl⟩ := Int.eq_ofNat_of_zero_le hx2.1
    have hs := toNat_of_byte n (8 * i) (by omega) (by omega)
    have e : 8 * (i + 1) = 8 * i + 8 := by omega
    rw [takeTo, hx, BitVec.toNat_add, show (8 * (i : Int)) = ((8 * i : Nat) : Int) from by omega, hs, e, Nat.pow_add]
    have h1 : n * 2 ^ (8 * i) ≤ 255 * 2 ^ (8 * i) := Nat.mul_le_mul_right _ (by omega)
    have h2 := Nat.mod_le ((takeTo xs i).toNat + n * 2 ^ (8 * i)) (2 ^ 128)
    omega
theorem take_step (xs : List Int) (hb : ∀ x ∈ xs, 0 ≤ x ∧ x ≤ 255) (i : Nat) (hi : i < 16) (n : Nat) (hn : n < 256) (hx : xs[i]?.getD 0 = (n : Int)) :
    bitsN (takeTo xs i).toNat (8 * i) ++ bitsN n 8 = bitsN (takeTo xs (i + 1)).toNat (8 * i + 8) := by
  have ih := take_lt xs hb i (by omega)
  have hs := toNat_of_byte n (8 * i) hn (by omega)
  have h1 : n * 2 ^ (8 * i) ≤ 255 * 2 ^ (8 * i) := Nat.mul_le_mul_right _ (by omega)
  have hlt : (takeTo xs i).toNat + n * 2 ^ (8 * i) < 2 ^ 128 := by
    have h2 : (2 : Nat) ^ (8 * i) * 2 ^ 8 ≤ 2 ^ 128 := by rw [← Nat.pow_add]; exact Nat.pow_le_pow_right (by decide) (by omega)
    omega
  have e : (takeTo xs (i + 1)).toNat = (takeTo xs i).toNat + n * 2 ^ (8 * i) := by
    rw [takeTo, hx, BitVec.toNat_add, show (8 * (i : Int)) = ((8 * i : Nat) : Int) from by omega, hs]
    exact Nat.mod_eq_of_lt hlt
  rw [← bitsN_app, e, Nat.add_mul_mod_self_right, Nat.mod_eq_of_lt ih, Nat.add_mul_div_right _ _ (Nat.two_pow_pos _), Nat.div_eq_of_lt ih, Nat.zero_add]
theorem ofBits_self (a : V) : ofBits (bitsN a.toNat 128) = a := right_zero a

theorem rTake_bad (v : Value) (xs : List Int) (w : World) (hr : Reads w .u8 v xs) (hn : xs.length ≠ 16) (hm : xs.length ≤ 1000000) : Calls Try.prog 35 #[v] w fun e w' =>
    e = .returned (.tuple #[.agg #[.int .u64 0, .int .u64 0], .int .i64 11]) ∧ Ext w w' := by
  obtain ⟨p, cp, rfl, hp⟩ := hr.flat
  clear hr hp
  have t : decide ((xs.length : Int) = 16) = false := decide_eq_false (by omega)
  have t2 : ((xs.length : Int) == 16) = false := by simp; omega
  have t3 : ((xs.length : Int) != 16) = true := by simp; omega
  go_enter Try.func35, Try.ntmps35
  go_wp2_with fail
  refine bodyPost_ret (v := ?_) ?_ rfl ⟨?_, ?_⟩
  rotate_left
  · simp only [results, Try.results35]
    go_simp
    with_reducible rfl
  · rfl
  · repeat (first | exact Ext.refl _ | refine Ext.alloc ?_ _ | (refine Ext.setCell ?_ (by simp <;> omega) _) | refine Ext.drew ?_)
set_option maxHeartbeats 4000000 in
theorem rTake_ok (v : Value) (xs : List Int) (w : World) (hr : Reads w .u8 v xs) (hn : xs.length = 16) (hb : ∀ x ∈ xs, 0 ≤ x ∧ x ≤ 255) : Calls Try.prog 35 #[v] w fun e w' =>
    e = .returned (.tuple #[.agg #[.int .u64 (hi (takeTo xs 16)), .int .u64 (lo (takeTo xs 16))], .int .i64 0]) ∧ Ext w w' := by
  obtain ⟨p, cp, rfl, hp⟩ := hr.flat
  clear hr
  rw [hn]
  obtain ⟨g, rfl, hz⟩ := hp 0 (by omega)
  clear hz
  have hg : ∀ j, j < 16 → w.cell? ⟨g, j, none⟩ = some (.int .u8 (xs[j]?.getD 0)) := fun j hj => by
    obtain ⟨g', e, h⟩ := hp j (by omega)
    obtain rfl : g = g' := by injection e with e; injection e
    rw [h]
    simp [show j < xs.length by omega]
  have hx : ∀ j, j < 16 → 0 ≤ xs[j]?.getD 0 ∧ xs[j]?.getD 0 ≤ 255 := fun j hj => by
    have h1 : j < xs.length := by omega
    simp only [List.getElem?_eq_getElem h1, Option.getD_some]
    exact hb _ (List.getElem_mem h1)
  have HG := Lib.hid hg
  have HB := Lib.hid hx
  have HBB := Lib.hid hb
  clear hp hg hx hb
  have HN := Lib.hid hn
  clear hn
  go_enter Try.func35, Try.ntmps35
  go_wp2_with fail
  go_loopw [4, 5] (fun l jv wr => ∃ i : Nat, i ≤ 16 ∧ jv = .int .i64 i ∧ Ext w wr ∧ w.heap.size + 1 ≤ wr.heap.size ∧ OwnI wr (w.heap.size + 1) l (bitsN (takeTo xs i).toNat (8 * i)) ∧ Cells wr w.heap.size [.int .u64 0, .int .u64 0])
    (fun _ jv _ => 16 - (intOf jv).toNat)
  case atStart =>
    refine ⟨0, by omega, rfl, ?_, by simp, ?_, ?_⟩
    · repeat (first | exact Ext.refl _ | refine Ext.alloc ?_ _ | (refine Ext.setCell ?_ (by simp <;> omega) _) | refine Ext.drew ?_)
    · have h0 := OwnI.lit (w.alloc (.cells #[.int .u64 0, .int .u64 0] 31)) (w.heap.size + 1) [] (by simp) (by simp)
      simpa [bitsN] using h0
    · exact Cells.mk2 (by go_simp <;> rfl) (by go_simp <;> rfl) (by go_simp) (by go_simp)
  case round =>
    obtain ⟨i, hi', rfl, HX, z1, hown, hs⟩ := hrel
    by_cases hlt : i < 16
    · have ci := HX.cell (HG.out i hlt)
      have hci := HB.out i hlt
      have HX_r := Lib.hid HX; clear HX
      have hlt' : (i : Int) < 16 := by omega
      obtain ⟨y, hy⟩ : ∃ y, xs[i]?.getD 0 = y := ⟨_, rfl⟩
      rw [hy] at ci hci
      obtain ⟨n, rfl⟩ := Int.eq_ofNat_of_zero_le hci.1
      have hn2 : n < 256 := by omega
      have hst := take_step xs HBB.out i hlt n hn2 hy
      have HST := Lib.hid hst; clear hst
      have HBn := Lib.hid (rBits n (by omega))
      have k1 : IntKind.u64.wrap (n : Int) = (n : Int) := IntWalk.u64_in _ (by omega)
      have HO := Lib.hid hown; clear hown
      clear hy hci
      go_wp2_with fail
      refine (HBn.out _).mono ?_
      rintro e w2 ⟨v2, rfl, hown2, hx⟩
      have hL2 := bitsN_length n 64
      obtain ⟨g2, cap, rfl, hg2, hg3, hcap, hcm, hcell⟩ := own_form hown2 (by rw [hL2]; omega)
      have HRT := Lib.hid (reads_take (cap := cap) (n := 8) (by rw [hL2]; omega) hcell)
      rw [bitsN_take n 64 8 (by omega)] at HRT
      rw [hL2] at hcap ⊢
      have hcap' : (64 : Int) ≤ cap := by omega
      have hcap2 : (8 : Int) ≤ cap := by omega
      have hown3 := HO.out.ext hx
      have hs3 := hs.ext hx
      have X3 := Lib.hid (HX_r.out.trans hx)
      have y3 := hx.size
      have HZ := Lib.hid (show w.heap.size + 1 ≤ w2.heap.size by omega)
      have HLL := Lib.hid (show (bitsN (takeTo xs i).toNat (8 * i)).length + (bitsN n 8).length ≤ 100000 by rw [bitsN_length, bitsN_length]; omega)
      clear hx hs hown2 hcell hL2 hg2 hg3 hcm ci
      go_wp2_with (at_builtin; go_loud (refine wpList_appendI rfl (.tmp 15) (.tmp 22) rfl _ (w.heap.size + 1) _ _ (bitsN (takeTo xs i).toNat (8 * i)) (bitsN n 8) rfl rfl hown3 HRT.out HLL.out HZ.out ?_))
      intro v' w6 hown6 hx6 hc6 hz6
      have X6 := Lib.hid (hx6 w (by omega) X3.out)
      have hs6 := hc6 _ _ (by omega) hs3
      have HO6 := Lib.hid hown6
      clear hx6 hc6 hown6 hown3 hs3
      go_wp2_with fail
      go_roundw
      case rel => exact ⟨i + 1, by omega, by simp, X6.out, by have := HZ.out; omega, by rw [HST.out] at HO6; exact HO6.out, hs6⟩
      case measure => simp [intOf]; omega
    · obtain rfl : i = 16 := by omega
      have HX_r := Lib.hid HX; clear HX
      have HR := Lib.hid fun w' (x : Ext wr w') => rOf u4 _ w' (hown.reads.ext x) (bitsN_bounds _ _) (by rw [bitsN_length]; omega)
      have HSelf := Lib.hid (ofBits_self (takeTo xs 16))
      obtain ⟨r0, r1, rf0, rf1⟩ := hs.two
      clear hown hs
      have zz : w.heap.size < wr.heap.size := by omega
      go_wp2_with fail
      refine (HR.out _ (Ext.refl _)).mono ?_
      rintro e w2 ⟨rfl, hx⟩
      rw [show 8 * 16 = 128 from rfl, HSelf.out]
      have hc_w2 := (ext_cell hx).1
      have hf_w2 := (ext_cell hx).2
      have HX_w2 := Lib.hid hx
      have y_w2 := hx.size
      try simp at y_w2
      have z_w2_w_0 : w.heap.size < w2.heap.size := by omega
      clear hx
      go_wp2
      refine bodyPost_ret (v := ?_) ?_ rfl ⟨?_, ?_⟩
      rotate_left
      · simp only [results, Try.results35]
        go_simp
        with_reducible rfl
      · rfl
      · repeat (first | exact HX_r.out | (refine Ext.setCell ?_ (by simp <;> omega) _) | refine Ext.trans ?_ HX_w2.out)
end Go.Proofs.Ytjjapblpmpidcab
