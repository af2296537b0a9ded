import Derived.Test.YtjjapblpmpidcaaXB
set_option linter.unusedVariables false
set_option linter.unusedSimpArgs false
namespace Go.Proofs.Ytjjapblpmpidcaa
open Go.RowKit Num UReg

/-! ### The number of a list of bits -/
theorem wv_eq (xs : List Int) (f N : Nat) (h : ∀ i, i < 64 → (xs[f + i]?.getD 0).toNat = N / 2 ^ i % 2) : ∀ m, m ≤ 64 → wv xs f m = N / 2 ^ (64 - m) % 2 ^ m
  | 0, _ => by simp [wv, Nat.mod_one]
  | m + 1, hm => by
    rw [wv, wv_eq xs f N h m (by omega), h (63 - m) (by omega)]
    have e : 64 - m = 63 - m + 1 := by omega
    have e2 : 64 - (m + 1) = 63 - m := by omega
    rw [e, e2, Nat.pow_succ, ← Nat.div_div_eq_div_mul, Nat.pow_succ']
    generalize N / 2 ^ (63 - m) = y
    rw [Nat.mod_mul]
    omega
theorem ofBits_eq (xs : List Int) (N : Nat) (h : ∀ i, i < 128 → (xs[i]?.getD 0).toNat = N / 2 ^ i % 2) : ofBits xs = BitVec.ofNat 128 N := by
  have h0 : wv xs 0 64 = N % 2 ^ 64 := by
    have := wv_eq xs 0 N (fun i hi => by rw [Nat.zero_add]; exact h i (by omega)) 64 (Nat.le_refl _)
    simpa using this
  have h1 : wv xs 64 64 = N / 2 ^ 64 % 2 ^ 64 := by
    have := wv_eq xs 64 (N / 2 ^ 64) (fun i hi => by rw [h (64 + i) (by omega), Nat.div_div_eq_div_mul, ← Nat.pow_add]) 64 (Nat.le_refl _)
    simpa using this
  apply BitVec.eq_of_toNat_eq
  unfold ofBits
  rw [h0, h1, toNat_mkN _ _ (Nat.mod_lt _ (by decide)) (Nat.mod_lt _ (by decide)), BitVec.toNat_ofNat]
  omega
theorem ofBits_left (a : V) (k : Nat) : ofBits ((List.replicate k 0 ++ listV a).take 128) = shl a (k : Int) := by
  rw [ofBits_eq _ (a.toNat * 2 ^ k)]
  · apply BitVec.eq_of_toNat_eq
    rw [toNat_shl, BitVec.toNat_ofNat, Int.toNat_natCast]
  · intro i hi
    rw [List.getElem?_take, if_pos hi]
    by_cases c : i < k
    · rw [List.getElem?_append_left (by simpa using c)]
      have e : 2 ^ k = 2 ^ i * (2 * 2 ^ (k - i - 1)) := by rw [← Nat.pow_succ', ← Nat.pow_add]; congr 1; omega
      rw [e, Nat.mul_left_comm, Nat.mul_div_cancel_left _ (Nat.two_pow_pos i), Nat.mul_left_comm, Nat.mul_mod_right]
      simp [c]
    · rw [List.getElem?_append_right (by simpa using c), List.length_replicate]
      have e : 2 ^ i = 2 ^ k * 2 ^ (i - k) := by rw [← Nat.pow_add]; congr 1; omega
      rw [e, ← Nat.div_div_eq_div_mul, Nat.mul_div_cancel _ (Nat.two_pow_pos k)]
      unfold listV
      rw [bitsN_get _ _ _ (by omega)]
      rfl
theorem ofBits_right (a : V) (k : Nat) : ofBits ((listV a).drop k) = shr a (k : Int) := by
  rw [ofBits_eq _ (a.toNat / 2 ^ k)]
  · apply BitVec.eq_of_toNat_eq
    rw [toNat_shr, BitVec.toNat_ofNat, Int.toNat_natCast]
    exact Nat.mod_eq_of_lt (Nat.lt_of_le_of_lt (Nat.div_le_self _ _) a.isLt)
  · intro i hi
    rw [List.getElem?_drop, Nat.div_div_eq_div_mul, ← Nat.pow_add]
    by_cases c : k + i < 128
    · unfold listV
      rw [bitsN_get _ _ _ c]
      rfl
    · rw [List.getElem?_eq_none (by rw [listV_length]; omega)]
      have h1 : (2 : Nat) ^ 128 ≤ 2 ^ (k + i) := Nat.pow_le_pow_right (by decide) (by omega)
      rw [Nat.div_eq_of_lt (Nat.lt_of_lt_of_le a.isLt h1)]
      rfl
theorem own_form {w : World} {base : Nat} {v : Value} {xs : List Int} (h : OwnI w base v xs) (hn : 0 < xs.length) :
    ∃ g cap, v = .slice (some ⟨g, 0, none⟩) xs.length cap ∧ base ≤ g ∧ g < w.heap.size ∧ xs.length ≤ cap ∧ cap ≤ maxLen ∧ ∀ j (h : j < xs.length), w.cell? ⟨g, j, none⟩ = some (.int .i64 xs[j]) := by
  have hr := h.reads
  have hge : ∀ k, v.ownBlock = some k → base ≤ k := fun k hk => own_ge h k hk
  rcases h.2 with ⟨_, hz⟩ | ⟨g, cap, cur, rfl, hb, hh, hc, hm, _, _⟩
  · omega
  · rcases hr with ⟨e, _⟩ | ⟨g', cap', e, hx⟩
    · cases e
    · simp only [Value.slice.injEq, Option.some.injEq, Addr.mk.injEq] at e
      obtain ⟨⟨rfl, _, _⟩, _, rfl⟩ := e
      exact ⟨g, cap, rfl, hb, (Array.getElem?_eq_some_iff.1 hh).1, hc, hm, hx⟩
theorem reads_take {w : World} {g cap n : Nat} {xs : List Int} (hn : n ≤ xs.length) (hc : ∀ j (h : j < xs.length), w.cell? ⟨g, j, none⟩ = some (.int .i64 xs[j])) : Reads w .i64 (.slice (some ⟨g, 0, none⟩) n cap) (xs.take n) :=
  .inr ⟨g, cap, by rw [List.length_take, Nat.min_eq_left hn], fun j hj => by
    rw [List.length_take, Nat.min_eq_left hn] at hj
    rw [hc j (by omega), List.getElem_take]⟩
theorem left_bounds (a : V) (k : Nat) : ∀ x ∈ (List.replicate k 0 ++ listV a).take 128, 0 ≤ x ∧ x ≤ 1 := by
  intro x hx
  have := List.mem_of_mem_take hx
  rw [List.mem_append] at this
  rcases this with h | h
  · rw [List.mem_replicate] at h; omega
  · exact bitsN_bounds _ _ x h

set_option maxHeartbeats 2000000 in
theorem rLeft (a : V) (n : Int) (w : World) : Calls Try.prog 69 #[.agg #[.int .u64 (hi a), .int .u64 (lo a)], .int .i64 n] w fun e w' =>
    e = .returned (.agg #[.int .u64 (hi (shl a n)), .int .u64 (lo (shl a n))]) ∧ Ext w w' := by
  obtain ⟨s, hs⟩ : ∃ s, shl a n = s := ⟨_, rfl⟩
  rw [hs]
  have HS := Lib.hid hs; clear hs
  go_enter Try.func69, Try.ntmps69
  go_wp2_with fail
  go_loopw [5, 6] (fun v j wr => ∃ k : Nat, k ≤ 128 ∧ j = .int .i64 k ∧ (k = 0 ∨ (k : Int) ≤ n) ∧ Ext w wr ∧ w.heap.size + 2 ≤ wr.heap.size ∧ OwnI wr (w.heap.size + 2) v (List.replicate k 0)
      ∧ Cells wr w.heap.size [.int .u64 (hi a), .int .u64 (lo a)] ∧ Cells wr (w.heap.size + 1) [.int .u64 0, .int .u64 0])
    (fun _ j _ => 128 - (intOf j).toNat)
  case atStart =>
    refine ⟨0, by omega, rfl, .inl rfl, ?_, by simp, ?_, ?_, ?_⟩
    · repeat (first | with_reducible exact Ext.refl _ | with_reducible refine Ext.alloc ?_ _ | (with_reducible refine Ext.setCell ?_ (by simp <;> omega) _) | with_reducible refine Ext.drew ?_)
    · have h0 := OwnI.lit ((w.alloc (.cells #[.int .u64 (hi a), .int .u64 (lo a)] 59)).alloc (.cells #[.int .u64 0, .int .u64 0] 59)) (w.heap.size + 2) [] (by simp) (by simp)
      simpa using h0
    · exact Cells.mk2 (by go_simp <;> rfl) (by go_simp <;> rfl) (by go_simp) (by go_simp)
    · exact Cells.mk2 (by go_simp <;> rfl) (by go_simp <;> rfl) (by go_simp) (by go_simp)
  case round =>
    obtain ⟨k, hk, rfl, hkn, HX, z1, hown, ha, hr⟩ := hrel
    have HX_r := Lib.hid HX; clear HX
    by_cases h1 : (k : Int) < n ∧ k < 128
    · obtain ⟨h1, h2⟩ := h1
      have t1 : decide ((k : Int) < n) = true := decide_eq_true h1
      have h3 : (k : Int) < 128 := by omega
      clear hkn
      have hown1 := hown.ext ((Ext.refl wr).alloc (.cells #[.int .i64 0] 3))
      have ha1 := ha.ext ((Ext.refl wr).alloc (.cells #[.int .i64 0] 3))
      have hr1 := hr.ext ((Ext.refl wr).alloc (.cells #[.int .i64 0] 3))
      clear hown ha hr
      go_wp2_with (at_builtin; refine wpList_appendI rfl (.tmp 17) (.tmp 18) rfl _ (w.heap.size + 2) _ _ (List.replicate k 0) [0] rfl rfl hown1 (reads_one _ _) ?c1 ?c2 ?_)
      case c1 => simp; omega
      case c2 => simp; omega
      intro v' w3 hown3 hx3 hc3 hz3
      have hx4 := Lib.hid (hx3 w (by omega) (HX_r.out.alloc _))
      have ha3 := hc3 _ _ (by omega) ha1
      have hr3 := hc3 _ _ (by omega) hr1
      try simp at hz3
      clear hx3 hc3 hown1 ha1 hr1
      go_wp2_with fail
      go_roundw
      case rel =>
        refine ⟨k + 1, by omega, by simp, .inr (by omega), hx4.out, by omega, ?_, ha3, hr3⟩
        rw [List.replicate_succ']
        exact hown3
      case measure => simp [intOf]; omega
    · have hse : shl a (k : Int) = s := by
        rw [← HS.out]
        by_cases h2 : (k : Int) < n
        · rw [shl_all a n (by omega), shl_all a k (by omega)]
        · rcases hkn with h | h
          · subst h
            rw [shl_neg a n (by omega)]
            exact shl_neg a _ (by omega)
          · rw [show (k : Int) = n by omega]
      have HE := Lib.hid hse; clear hse
      have hp : (decide ((k : Int) < n) && decide ((k : Int) < 128)) = false := by
        by_cases h2 : (k : Int) < n
        · rw [decide_eq_false (by omega : ¬(k : Int) < 128), Bool.and_false]
        · rw [decide_eq_false h2]; rfl
      clear hkn
      obtain ⟨a0, a1, af0, af1⟩ := ha.two
      obtain ⟨r0, r1, rf0, rf1⟩ := hr.two
      have zr : w.heap.size + 1 < wr.heap.size := by omega
      by_cases h2 : (k : Int) < n
      · have t1 : decide ((k : Int) < n) = true := decide_eq_true h2
        have t2 : decide ((k : Int) < 128) = false := decide_eq_false (by omega)
        clear h1 h2 hp
        go_wp2_with fail
        refine (rList _ _).mono ?_
        rintro e w4 ⟨v4, rfl, hown4, hx⟩
        have hownX := hown.ext hx
        have hr4 := hr.ext hx
        have z4 := hx.size
        have X4 := Lib.hid (HX_r.out.trans hx)
        have HRd := hown4.reads
        clear hx hr hown hown4 ha a0 a1 af0 af1 r0 r1 rf0 rf1
        go_wp2_with (at_builtin; refine wpList_appendI rfl (.tmp 20) (.tmp 22) rfl _ (w.heap.size + 2) _ _ (List.replicate k 0) (listV a) rfl rfl hownX HRd (by rw [List.length_replicate, listV_length]; omega) (by omega) ?_)
        intro v5 w5 hown5 hx5 hc5 hz5
        have X5 := Lib.hid (hx5 w (by omega) X4.out)
        have hr5 := hc5 _ _ (by omega) hr4
        obtain ⟨L, hL⟩ : ∃ L, (List.replicate k 0 ++ listV a).length = L := ⟨_, rfl⟩
        have hLe : 128 ≤ L := by rw [← hL, List.length_append, List.length_replicate, listV_length]; omega
        obtain ⟨g, cap, rfl, hg, hg2, hcap, hcm, hcell⟩ := own_form hown5 (by omega)
        have HRT := Lib.hid (reads_take (cap := cap) (n := 128) (by omega) hcell)
        rw [hL] at hcap ⊢
        have hcap' : (128 : Int) ≤ cap := by omega
        have HOf := Lib.hid fun w' (x : Ext w5 w') => rOf _ _ w' (HRT.out.ext x) (left_bounds a k) (by rw [List.length_take]; omega)
        obtain ⟨r0, r1, rf0, rf1⟩ := hr5.two
        clear hx5 hc5 hr4 hown5 hownX HRd hcell hL hr5
        go_wp2_with fail
        refine (HOf.out _ (Ext.refl _)).mono ?_
        rintro e w6 ⟨rfl, hx⟩
        have zr5 : w.heap.size + 1 < w5.heap.size := by omega
        have hlf := ofBits_left a k
        rw [HE.out] at hlf
        rw [hlf]
        have hc_w6 := (ext_cell hx).1
        have hf_w6 := (ext_cell hx).2
        have HX_w6 := Lib.hid hx
        have y_w6 := hx.size
        try simp at y_w6
        have z_w6_w_0 : w.heap.size < w6.heap.size := by omega
        have z_w6_w_1 : w.heap.size + 1 < w6.heap.size := by omega
        clear hx
        go_wp2
        refine bodyPost_ret (v := ?_) ?_ rfl ⟨?_, ?_⟩
        rotate_left
        · simp only [results, Try.results69]
          go_simp
          with_reducible rfl
        · rfl
        · repeat (first | exact X5.out | (refine Ext.setCell ?_ (by simp <;> omega) _) | refine Ext.trans ?_ HX_w6.out)
      · have t1 : decide ((k : Int) < n) = false := decide_eq_false h2
        clear h1 h2 hp
        go_wp2_with fail
        refine (rList _ _).mono ?_
        rintro e w4 ⟨v4, rfl, hown4, hx⟩
        have hownX := hown.ext hx
        have hr4 := hr.ext hx
        have z4 := hx.size
        have X4 := Lib.hid (HX_r.out.trans hx)
        have HRd := hown4.reads
        clear hx hr hown hown4 ha a0 a1 af0 af1 r0 r1 rf0 rf1
        go_wp2_with (at_builtin; refine wpList_appendI rfl (.tmp 20) (.tmp 22) rfl _ (w.heap.size + 2) _ _ (List.replicate k 0) (listV a) rfl rfl hownX HRd (by rw [List.length_replicate, listV_length]; omega) (by omega) ?_)
        intro v5 w5 hown5 hx5 hc5 hz5
        have X5 := Lib.hid (hx5 w (by omega) X4.out)
        have hr5 := hc5 _ _ (by omega) hr4
        obtain ⟨L, hL⟩ : ∃ L, (List.replicate k 0 ++ listV a).length = L := ⟨_, rfl⟩
        have hLe : 128 ≤ L := by rw [← hL, List.length_append, List.length_replicate, listV_length]; omega
        obtain ⟨g, cap, rfl, hg, hg2, hcap, hcm, hcell⟩ := own_form hown5 (by omega)
        have HRT := Lib.hid (reads_take (cap := cap) (n := 128) (by omega) hcell)
        rw [hL] at hcap ⊢
        have hcap' : (128 : Int) ≤ cap := by omega
        have HOf := Lib.hid fun w' (x : Ext w5 w') => rOf _ _ w' (HRT.out.ext x) (left_bounds a k) (by rw [List.length_take]; omega)
        obtain ⟨r0, r1, rf0, rf1⟩ := hr5.two
        clear hx5 hc5 hr4 hown5 hownX HRd hcell hL hr5
        go_wp2_with fail
        refine (HOf.out _ (Ext.refl _)).mono ?_
        rintro e w6 ⟨rfl, hx⟩
        have zr5 : w.heap.size + 1 < w5.heap.size := by omega
        have hlf := ofBits_left a k
        rw [HE.out] at hlf
        rw [hlf]
        have hc_w6 := (ext_cell hx).1
        have hf_w6 := (ext_cell hx).2
        have HX_w6 := Lib.hid hx
        have y_w6 := hx.size
        try simp at y_w6
        have z_w6_w_0 : w.heap.size < w6.heap.size := by omega
        have z_w6_w_1 : w.heap.size + 1 < w6.heap.size := by omega
        clear hx
        go_wp2
        refine bodyPost_ret (v := ?_) ?_ rfl ⟨?_, ?_⟩
        rotate_left
        · simp only [results, Try.results69]
          go_simp
          with_reducible rfl
        · rfl
        · repeat (first | exact X5.out | (refine Ext.setCell ?_ (by simp <;> omega) _) | refine Ext.trans ?_ HX_w6.out)
end Go.Proofs.Ytjjapblpmpidcaa
