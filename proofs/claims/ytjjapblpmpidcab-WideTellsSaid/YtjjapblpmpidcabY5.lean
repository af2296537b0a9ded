import Derived.Test.YtjjapblpmpidcabY4
set_option linter.unusedVariables false
set_option linter.unusedSimpArgs false
namespace Go.Proofs.Ytjjapblpmpidcab
open Go.RowKit Num UReg

/-! ### The reference of layer 1: Print -/
def outL (D : List Int) (k : Nat) : List Int := ((D.take k).map fun d => 48 + d).reverse
theorem outL_succ (D : List Int) (k : Nat) (h : k < D.length) : outL D (k + 1) = (48 + D[k]) :: outL D k := by
  unfold outL
  rw [List.take_add_one, List.getElem?_eq_getElem h, Option.toList_some, List.map_append, List.reverse_append]
  rfl
theorem outL_length (D : List Int) (k : Nat) (h : k ≤ D.length) : (outL D k).length = k := by
  simp [outL]; omega
theorem str_cons (x : Int) (bs : List Int) : strOfNums [x] ++ strOfNums bs = strOfNums (x :: bs) := by
  apply ByteArray.ext
  simp [strOfNums]
theorem str_add (t : TypeId) (x : Int) (bs : List Int) (h : bs.length ≤ 1000) : binOp .add t (.string (strOfNums [x])) (.string (strOfNums bs)) = pure (.string (strOfNums (x :: bs))) := by
  have h1 : (strOfNums [x]).size = 1 := by rw [strOfNums_size]; rfl
  have h2 : (strOfNums bs).size = bs.length := strOfNums_size bs
  have h3 : ¬ (((strOfNums [x]).size + (strOfNums bs).size : Nat) : Int) > IntKind.i64.max := by
    rw [h1, h2, show IntKind.i64.max = 9223372036854775807 from rfl]
    omega
  simp only [binOp, Op.stringOp]
  rw [if_neg h3, str_cons]
theorem twice_cast (x y z : Nat) (h : x = 2 * y + z) : 2 * (y : Int) + (z : Int) = (x : Int) := by omega
theorem half_bit (n q : Nat) : n / 2 ^ q = 2 * (n / 2 ^ (q + 1)) + n / 2 ^ q % 2 := pow_bit n q

set_option maxHeartbeats 4000000 in
theorem rPrint {a : V} {s : ByteArray} (hs : strOfNums (dec a.toNat) = s) (w : World) : Calls Try.prog 53 #[.agg #[.int .u64 (hi a), .int .u64 (lo a)]] w fun e w' =>
    e = .returned (.string s) ∧ Ext w w' := by
  have HSD := Lib.hid hs; clear hs
  go_enter Try.func53, Try.ntmps53
  go_wp2_with fail
  have hown0 := OwnK.lit .i64 3 (w.alloc (.cells #[.int .u64 (hi a), .int .u64 (lo a)] 31)) (w.heap.size + 1) [0] (by simp) (by simp)
  simp only [List.map_cons, List.map_nil, List.length_cons, List.length_nil] at hown0
  refine (rList _ _).mono ?_
  rintro e w1 ⟨v, rfl, hown, hx⟩
  obtain ⟨g, cap, rfl, hg, hg2, hc⟩ := own_list hown
  simp at hg
  have hO1 := Lib.hid (hown0.ext hx)
  have HB1 := Lib.hid (show BitsAt w1 g a.toNat from hc)
  have X1 := Lib.hid ((((Ext.refl w).alloc _).alloc _).trans hx)
  have y1 := hx.size
  simp at y1
  clear hx hown hc hown0
  go_wp2_with fail
  go_loopw [3, 5, 6, 7, 8] (fun dv iv _ _ _ wr => ∃ (m : Nat) (D : List Int), m ≤ 128 ∧ iv = .int .i64 (127 - (m : Int)) ∧ Canon D ∧ valL D = ((a.toNat / 2 ^ (128 - m) : Nat) : Int) ∧ Ext w wr ∧ w.heap.size + 1 < wr.heap.size ∧ g < wr.heap.size
      ∧ OwnK .i64 3 wr (w.heap.size + 1) dv D ∧ dv.ownBlock ≠ some g ∧ BitsAt wr g a.toNat)
    (fun _ iv _ _ _ _ => (intOf iv + 1).toNat)
  case atStart =>
    refine ⟨0, [0], by omega, rfl, ⟨by intro x hx; simp at hx; omega, by simp, .inl rfl⟩, ?_, X1.out, by omega, hg2, ?_, ?_, HB1.out⟩
    · rw [Nat.div_eq_of_lt a.isLt]; rfl
    · simpa using hO1.out
    · simp [Value.ownBlock]; omega
  case round =>
    clear hO1 HB1 X1
    obtain ⟨m, D, hm, rfl, hcan, hval, HX, z0, z1, hown, hne, hbits⟩ := hrel
    have HX_r := Lib.hid HX; clear HX
    have hvlt : valL D < 340282366920938463463374607431768211456 := by
      rw [hval]
      have := Nat.div_le_self a.toNat (2 ^ (128 - m))
      have := a.isLt
      omega
    have hlen := canon_len hcan hvlt
    have hlen1 := hcan.2.1
    clear hvlt
    obtain ⟨d, cp, rfl, hd1, hd2⟩ := own_formK hown (by omega)
    have hdg : d ≠ g := fun e => hne (by rw [e]; rfl)
    clear hne
    obtain ⟨L, hL⟩ : ∃ L, D.length = L := ⟨_, rfl⟩
    rw [hL] at hlen hlen1 hown ⊢
    have HC := Lib.hid hcan; clear hcan
    have HV := Lib.hid hval; clear hval
    have HO := Lib.hid hown; clear hown
    have HBt := Lib.hid hbits; clear hbits
    have HL := Lib.hid hL; clear hL
    by_cases hml : m < 128
    · obtain ⟨j, hj⟩ : ∃ j : Int, 127 - (m : Int) = j := ⟨_, rfl⟩
      obtain ⟨q, hq⟩ : ∃ q, 127 - m = q := ⟨_, rfl⟩
      obtain rfl : j = (q : Int) := by omega
      rw [hj]
      have hq1 : (q : Int) < 128 := by omega
      have hcell := HBt.out q (by omega)
      obtain ⟨b, hb⟩ : ∃ b : Int, ((a.toNat / 2 ^ q % 2 : Nat) : Int) = b := ⟨_, rfl⟩
      have hb01 : 0 ≤ b ∧ b ≤ 1 := by omega
      rw [hb] at hcell
      have HBb := Lib.hid hb; clear hb
      have HQ := Lib.hid hq; clear hq
      have HJ := Lib.hid hj; clear hj
      have hb0 := hb01.1
      have hb1 := hb01.2
      clear hb01
      go_wp2_with fail
      go_loopw [6, 7, 8] (fun c kv _ wq => ∃ (k : Nat) (E : List Int) (cc : Int), k ≤ L ∧ kv = .int .i64 k ∧ c = .int .i64 cc ∧ Dbl D b E cc k ∧ Ext w wq ∧ w.heap.size + 1 < wq.heap.size ∧ g < wq.heap.size ∧ d < wq.heap.size
          ∧ OwnK .i64 3 wq (w.heap.size + 1) (.slice (some ⟨d, 0, none⟩) L cp) E ∧ BitsAt wq g a.toNat)
        (fun _ kv _ _ => L - (intOf kv).toNat)
      case atStart => exact ⟨0, D, b, by omega, rfl, rfl, dbl_start D HC.out.1 b ⟨hb0, hb1⟩, HX_r.out, z0, z1, hd2, HO.out, HBt.out⟩
      case round =>
        clear hcell HX_r HO HBt z0 z1 hd2
        obtain ⟨k, E, cc, hk, rfl, rfl, hdbl, HX, z0, z1, hd2, hown, hbits⟩ := hrel
        have HX_r := Lib.hid HX; clear HX
        have HBt := Lib.hid hbits; clear hbits
        have hEL : E.length = L := hdbl.1.trans HL.out
        by_cases hkl : k < L
        · have hkE : k < E.length := by omega
          obtain ⟨ce, cf⟩ := own_cell hown k hkE
          have hst := dbl_step hdbl hkE
          have hx9 := digs_get hdbl.2.1 k hkE
          have hc0 := hdbl.2.2.1
          have hc1 := hdbl.2.2.2.1
          obtain ⟨x, hx⟩ : ∃ x, E[k] = x := ⟨_, rfl⟩
          rw [hx] at ce hst hx9
          obtain ⟨r, hr⟩ : ∃ r, (2 * x + cc) % 10 = r := ⟨_, rfl⟩
          obtain ⟨u, hu⟩ : ∃ u, (2 * x + cc) / 10 = u := ⟨_, rfl⟩
          have k1 : IntKind.i64.wrap (2 * x) = 2 * x := IntWalk.i64_in _ (by omega)
          have k2 : IntKind.i64.wrap (2 * x + cc) = 2 * x + cc := IntWalk.i64_in _ (by omega)
          have k3 : (2 * x + cc).tmod 10 = r := by rw [Int.tmod_eq_emod_of_nonneg (by omega)]; exact hr
          have k4 : (2 * x + cc).tdiv 10 = u := by rw [Int.tdiv_eq_ediv_of_nonneg (by omega)]; exact hu
          have k5 : IntKind.i64.wrap u = u := IntWalk.i64_in _ (by omega)
          have hkl' : (k : Int) < (L : Int) := by omega
          rw [hr, hu] at hst
          have hput := OwnK.put hown k hkE r
          have HST := Lib.hid hst; clear hst
          have HP := Lib.hid hput; clear hput
          clear hx hx9 hc0 hc1 hdbl hown hEL
          go_wp2_with fail
          go_roundw
          case rel => exact ⟨k + 1, E.set k r, u, by omega, by simp, rfl, HST.out, HX_r.out.setCell (by simp; omega) _, by simp; omega, by simp; omega, by simp; omega, HP.out, HBt.out.other hdg _ _⟩
          case measure => simp [intOf]; omega
        · obtain rfl : k = L := by omega
          have hval' := half_bit a.toNat q
          have hV := HV.out
          rw [show 128 - m = q + 1 by have := HQ.out; omega] at hV
          have hbb := HBb.out
          have hdbl2 := hdbl
          rw [← HL.out] at hdbl
          have hkE : k < E.length + 1 := by omega
          rcases (show cc = 0 ∨ cc = 1 by have := hdbl.2.2.1; have := hdbl.2.2.2.1; omega) with rfl | rfl
          · obtain ⟨n1, n2⟩ := canon_end0 HC.out hb0 hdbl
            have HN1 := Lib.hid n1
            have HN2 := Lib.hid (show valL E = ((a.toNat / 2 ^ q : Nat) : Int) by rw [n2, hV, ← hbb]; exact twice_cast _ _ _ hval')
            have HO := Lib.hid hown
            clear n1 n2 hval' hV hbb hdbl hdbl2 hown hEL hkE
            go_wp2_with fail
            go_roundw
            case rel =>
              have e1 := HQ.out
              exact ⟨m + 1, E, by omega, congrArg (Value.int .i64) (by omega), HN1.out, by rw [HN2.out, show 128 - (m + 1) = q by omega], HX_r.out, z0, z1, HO.out, by simp [Value.ownBlock]; exact hdg, HBt.out⟩
            case measure => have := HQ.out; simp [intOf] <;> omega
          · obtain ⟨n1, n2⟩ := canon_end1 HC.out hdbl
            have HN1 := Lib.hid n1
            have HN2 := Lib.hid (show valL (E ++ [1]) = ((a.toNat / 2 ^ q : Nat) : Int) by rw [n2, hV, ← hbb]; exact twice_cast _ _ _ hval')
            have hown1 := hown.ext ((Ext.refl wr).alloc (.cells #[.int .i64 1] 3))
            have hb1' := BitsAt.ext HBt.out ((Ext.refl wr).alloc (.cells #[.int .i64 1] 3))
            have X1 := Lib.hid (HX_r.out.alloc (.cells #[.int .i64 1] 3))
            have HZ := Lib.hid (show w.heap.size + 1 ≤ (wr.alloc (.cells #[.int .i64 1] 3)).heap.size by simp; omega)
            have HEL := Lib.hid hEL
            have HNE := Lib.hid (show (Value.slice (some ⟨d, 0, none⟩) k cp).ownBlock ≠ some g by simp [Value.ownBlock]; exact hdg)
            clear n1 n2 hval' hV hbb hdbl hdbl2 hown hEL hkE
            go_wp2_with (at_builtin; refine wpList_appendK (k := .i64) (bytes := 8) Try.underlying89 (by kernel_rfl) (by decide) rfl (.tmp 44) (.tmp 46) rfl _ (w.heap.size + 1) _ _ E [1] rfl rfl hown1 (reads_oneK _ _ _ _) (by rw [HEL.out]; simp; omega) HZ.out ?_)
            intro v' w6 hown6 hg6
            have hne6 := Lib.hid (hg6.ne HNE.out (by simp; omega))
            have hb6 := BitsAt.grew hg6 HNE.out hb1'
            have X6 := Lib.hid (hg6.ext X1.out (fun k hk => by have := hown1.ge k hk; omega))
            have z6 := hg6.size
            simp at z6
            have HO6 := Lib.hid hown6
            have HB6 := Lib.hid hb6
            clear hg6 hown6 hb6 hown1 hb1' X1
            go_wp2_with fail
            go_roundw
            case rel =>
              have e1 := HQ.out
              exact ⟨m + 1, E ++ [1], by omega, congrArg (Value.int .i64) (by omega), HN1.out, by rw [HN2.out, show 128 - (m + 1) = q by omega], X6.out, by omega, by omega, HO6.out, hne6.out, HB6.out⟩
            case measure => have := HQ.out; simp [intOf] <;> omega
    · obtain rfl : m = 128 := by omega
      have hV := HV.out
      rw [show a.toNat / 2 ^ (128 - 128) = a.toNat by simp] at hV
      have hdec := canon_dec D a.toNat HC.out hV a.isLt
      have HD := Lib.hid (show strOfNums (outL D L) = s by
        rw [← HSD.out, ← hdec]
        unfold outL
        rw [← HL.out, List.take_length])
      clear hV hdec HV
      go_wp2_with fail
      go_loopw [9, 10] (fun sv kv wq => ∃ k : Nat, k ≤ L ∧ kv = .int .i64 k ∧ sv = .string (strOfNums (outL D k)) ∧ Ext w wq ∧ w.heap.size + 1 < wq.heap.size ∧ OwnK .i64 3 wq (w.heap.size + 1) (.slice (some ⟨d, 0, none⟩) L cp) D)
        (fun _ kv _ => L - (intOf kv).toNat)
      case atStart => exact ⟨0, by omega, rfl, rfl, HX_r.out, z0, HO.out⟩
      case round =>
        clear HX_r HO HBt z0 z1 hd2
        obtain ⟨k, hk, rfl, rfl, HX, z0, hown⟩ := hrel
        have HX_r := Lib.hid HX; clear HX
        by_cases hkl : k < L
        · have hkD : k < D.length := by rw [HL.out]; exact hkl
          have hce := (own_cell hown k hkD).1
          have hx9 := digs_get HC.out.1 k hkD
          have ho := outL_succ D k hkD
          have hol := outL_length D k (by omega)
          obtain ⟨x, hx⟩ : ∃ x, D[k] = x := ⟨_, rfl⟩
          rw [hx] at hce hx9 ho
          obtain ⟨t, ht⟩ : ∃ t, outL D k = t := ⟨_, rfl⟩
          rw [ht] at ho hol ⊢
          have k1 : IntKind.i64.wrap (48 + x) = 48 + x := IntWalk.i64_in _ (by omega)
          have k2 : IntKind.u8.wrap (48 + x) = 48 + x := IntWalk.u8_in _ (by omega)
          have k3 := str_add 9 (48 + x) t (by omega)
          have hcv : (convert 60 9 (.slice (some ⟨wr.heap.size, 0, none⟩) 1 1)).run Try.prog (wr.alloc (.cells #[.int .u8 (48 + x)] 5)) = .ok (.string (strOfNums [48 + x])) (wr.alloc (.cells #[.int .u8 (48 + x)] 5)) := by
            refine run_convert_bytes_arg _ 60 5 Try.underlying60 Try.underlying5 wr.heap.size 0 _ 1 [48 + x] (by simp) (fun j hj => ?_) 9 Try.underlying9
            have hj' : j = 0 := by omega
            subst hj'
            simp
          have hkl' : (k : Int) < (L : Int) := by omega
          have HO := Lib.hid (hown.ext ((Ext.refl wr).alloc (.cells #[.int .u8 (48 + x)] 5)))
          have X1 := Lib.hid (HX_r.out.alloc (.cells #[.int .u8 (48 + x)] 5))
          have HOL := Lib.hid ho
          clear hx hx9 ho hol ht hown hkD
          go_wp2_with fail
          go_roundw
          case rel => exact ⟨k + 1, by omega, by simp, by rw [HOL.out], X1.out, by simp; omega, HO.out⟩
          case measure => simp [intOf]; omega
        · obtain rfl : k = L := by omega
          have hs := HD.out
          rw [hs]
          clear hs hown
          go_wp2_with fail
          go_ret
          exact ⟨rfl, HX_r.out⟩
end Go.Proofs.Ytjjapblpmpidcab
