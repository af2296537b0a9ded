import Derived.Test.YtjjapblpmpidcaaJC
import Derived.Test.YtjjapblpmpidcaaR5
set_option linter.unusedVariables false
set_option linter.unusedSimpArgs false
namespace Go.Proofs.Ytjjapblpmpidcaa
open Go.RowKit UReg

/-! ### TableCopies -/
/-- A row that no act of the table at tc touches. -/
def RowOff (row : Value) (tc : Nat) (v : Value) : Prop := ∀ g, row.ownBlock = some g → g ≠ tc ∧ v.ownBlock ≠ some g
theorem UReg.OwnI.chg {W w' : World} {base tc : Nat} {row v v' : Value} {xs : List Int} (h : OwnI W base row xs) (o : RowOff row tc v) (c : Chg tc v v' W w') : OwnI w' base row xs ∧ RowOff row tc v' := by
  have hl : ∀ g, row.ownBlock = some g → g < W.heap.size := fun g hg => (World.ownsRow.lt h g hg).2
  constructor
  · refine ⟨h.1, ?_⟩
    rcases h.2 with hn | ⟨g, cap, cur, hv, hg, hh, rest⟩
    · exact .inl hn
    · refine .inr ⟨g, cap, cur, hv, hg, ?_, rest⟩
      have e : row.ownBlock = some g := by rw [hv]; rfl
      rw [c.block g (hl g e) (o g e).1 (o g e).2]
      exact hh
  · exact fun g hg => ⟨(o g hg).1, c.ne (o g hg).2 (hl g hg)⟩
theorem act_cells (w : World) (d b x : Int) : Cells (w.alloc (.cells #[.int .i64 d, .int .i64 b, .int .u64 x] 32)) w.heap.size [.int .i64 d, .int .i64 b, .int .u64 x] :=
  fun j hj => by match j, hj with | 0, _ => exact ⟨by go_simp <;> rfl, by go_simp⟩ | 1, _ => exact ⟨by go_simp <;> rfl, by go_simp⟩ | 2, _ => exact ⟨by go_simp <;> rfl, by go_simp⟩
theorem map_same (L : List (Int × Int)) : (L.map fun r => (r.1, (fun x : Int => x) r.2)) = L := by simp
set_option maxRecDepth 100000 in
set_option maxHeartbeats 8000000 in
theorem tableCopies_walk (v0 v1 : Value) (w : World) (hv0 : ActArg w v0) (hv1 : ActArg w v1) :
    Calls Try.prog 5 #[v0, v1] w fun e w' => e = .returned (.bool true) ∧ Ext w w' := by
  obtain ⟨p, n, cap, A, rfl, hn, hA⟩ := hv0
  obtain ⟨q, m, caq, D, rfl, hm, hD⟩ := hv1
  have HA := Lib.hid hA; clear hA
  have HD := Lib.hid hD; clear hD
  unfold maxLen at hn hm
  by_cases hg : 100 < n ∨ 100 < m
  · have t1 : (decide ((100 : Int) < (n : Int)) = true) ∨ (decide ((100 : Int) < (n : Int)) = false ∧ decide ((100 : Int) < (m : Int)) = true) := by
      by_cases h : 100 < n
      · exact .inl (decide_eq_true (by omega))
      · exact .inr ⟨decide_eq_false (by omega), decide_eq_true (by omega)⟩
    clear hg
    rcases t1 with t1 | ⟨t1, t2⟩
    all_goals
      go_enter Try.func5, Try.ntmps5
      go_wp2_with fail
      refine (awake19 _).mono ?_
      rintro e w1 ⟨rfl, hx⟩
      have X1 := Lib.hid hx; clear hx
      go_wp2
      go_ret
      exact ⟨rfl, X1.out⟩
  · have t1 : decide ((100 : Int) < (n : Int)) = false := decide_eq_false (by omega)
    have t2 : decide ((100 : Int) < (m : Int)) = false := decide_eq_false (by omega)
    have hn' : n ≤ 100 := by omega
    have hm' : m ≤ 100 := by omega
    clear hg hn hm
    go_enter Try.func5, Try.ntmps5
    go_wp2_with fail
    refine (awake19 _).mono ?_
    rintro e w1 ⟨rfl, hx⟩
    have X1 := Lib.hid hx; clear hx
    go_wp2_with fail
    refine (tNew _).mono ?_
    rintro e w2 ⟨rfl, hT, hx⟩
    obtain ⟨tb, htb⟩ : ∃ tb, w1.heap.size = tb := ⟨_, rfl⟩
    have hT' := hT.mono X1.out.size
    rw [htb] at hT' ⊢
    have T2 := Lib.hid hT'
    have X2 := Lib.hid (X1.out.trans hx)
    clear hT hx htb hT'
    go_wp2_with fail
    go_loopw [34] (fun iv wr => ∃ k : Nat, k ≤ n ∧ iv = .int .i64 k ∧ ∃ (v : Value) (L : List (Int × Int)) (nx : Int), WT L nx ∧ Tab RT w.heap.size wr tb v L nx ∧ Ext w wr)
      (fun iv _ => n - (intOf iv).toNat)
    case atStart => exact ⟨0, by omega, rfl, _, [], 0, wt_nil, T2.out, X2.out⟩
    case round =>
      clear T2 X2 X1
      obtain ⟨k, hk, rfl, v, L, nx, hw, hT, hX⟩ := hrel
      have HW := Lib.hid hw
      have T0 := Lib.hid hT
      have X0 := Lib.hid hX
      clear hw hT hX
      by_cases hlt : k < n
      · have hki : (k : Int) < (n : Int) := by omega
        obtain ⟨a, rfl, c0, c1, c2⟩ := HA.out k hlt
        obtain ⟨⟨d, b, x⟩, hx⟩ : ∃ t, A k = t := ⟨_, rfl⟩
        rw [hx] at c0 c1 c2
        simp only at c0 c1 c2
        have c0 := X0.out.cell c0
        have c1 := X0.out.cell c1
        have c2 := X0.out.cell c2
        clear hx
        obtain ⟨ad, had⟩ : ∃ ad, a.add (k * 3) = ad := ⟨_, rfl⟩
        rw [had] at c0 c1 c2
        have c1 : wr.cell? ⟨ad.block, ad.off + 1, none⟩ = some (.int .i64 b) := c1
        have c2 : wr.cell? ⟨ad.block, ad.off + 2, none⟩ = some (.int .u64 x) := c2
        have X1 := Lib.hid ((Ext.refl wr).alloc (.cells #[.int .i64 d, .int .i64 b, .int .u64 x] 32))
        have T1 := Lib.hid (T0.out.ext X1.out)
        have HD1 := Lib.hid (tDo T1.out HW.out d b x)
        have W' := Lib.hid (HW.out.act d b x)
        go_wp2_with fail
        refine HD1.out.mono ?_
        rintro e w3 ⟨v', rfl, hT, hG⟩
        have T3 := Lib.hid hT
        have X3 := Lib.hid (T1.out.up hG (X0.out.trans X1.out) (Nat.le_refl _))
        clear hT hG T0 T1 X0 X1 HD1 c0 c1 c2 HW HA HD
        go_wp2_with fail
        go_roundw
        case rel => exact ⟨k + 1, by omega, by simp, v', _, _, W'.out, T3.out, X3.out⟩
        case measure => simp [intOf]; omega
      · clear HA
        have HL16 := Lib.hid HW.out.len
        go_wp2_with fail
        refine (tCopy T0.out HW.out.len (fun x => x) cfCopies fSame).mono ?_
        rintro e w3 ⟨tc, u, rfl, hc, hx⟩
        rw [map_same] at hc
        have P3 := Lib.hid (Apart.new T0.out hc)
        have C3 := Lib.hid (hc.mono X0.out.size)
        have T3 := Lib.hid (T0.out.ext hx)
        have X3 := Lib.hid (X0.out.trans hx)
        clear hc hx T0 X0
        go_wp2_with fail
        refine (tCopy T3.out HW.out.len (fun x => x) cfCopies fSame).mono ?_
        rintro e w4 ⟨td, u', rfl, hc, hx⟩
        rw [map_same] at hc
        have P4 := Lib.hid (Apart.new T3.out hc)
        have R4 := Lib.hid (Apart.new C3.out hc)
        have D4 := Lib.hid (hc.mono X3.out.size)
        have C4 := Lib.hid (C3.out.ext hx)
        have T4 := Lib.hid (T3.out.ext hx)
        have X4 := Lib.hid (X3.out.trans hx)
        clear hc hx T3 C3 X3
        go_wp2_with fail
        refine (tHandles T4.out HL16.out).mono ?_
        rintro e w5 ⟨row, rfl, ho, hx⟩
        have hoc : RowOff row tc u := fun g hg => ⟨fun e => by have := own_ge ho g hg; have := C4.out.lt; omega, fun e => by have := own_ge ho g hg; have := C4.out.own.lt g e; omega⟩
        have hod : RowOff row td u' := fun g hg => ⟨fun e => by have := own_ge ho g hg; have := D4.out.lt; omega, fun e => by have := own_ge ho g hg; have := D4.out.own.lt g e; omega⟩
        have OC := Lib.hid hoc
        have OD := Lib.hid hod
        have O5 := Lib.hid ho
        have T5 := Lib.hid (T4.out.ext hx)
        have C5 := Lib.hid (C4.out.ext hx)
        have D5 := Lib.hid (D4.out.ext hx)
        have X5 := Lib.hid (X4.out.trans hx)
        clear hoc hod ho hx T4 C4 D4 X4
        go_wp2_with fail
        refine (tNext T5.out).mono ?_
        rintro e w6 ⟨rfl, hx⟩
        have O6 := Lib.hid (O5.out.ext hx)
        have T6 := Lib.hid (T5.out.ext hx)
        have C6 := Lib.hid (C5.out.ext hx)
        have D6 := Lib.hid (D5.out.ext hx)
        have X6 := Lib.hid (X5.out.trans hx)
        clear hx T5 C5 D5 X5 O5
        obtain ⟨rb, hrb⟩ : ∃ rb, w4.heap.size = rb := ⟨_, rfl⟩
        rw [hrb] at O6
        clear hrb
        go_wp2_with fail
        go_loopw [60] (fun iv wr => ∃ k : Nat, k ≤ m ∧ iv = .int .i64 k ∧ ∃ (y z : Value) (M : List (Int × Int)) (mx : Int), WT M mx ∧ Tab RT w.heap.size wr tc y M mx ∧ Tab RT w.heap.size wr td z M mx ∧ Tab RT w.heap.size wr tb v L nx
            ∧ Apart tb v tc y ∧ Apart tb v td z ∧ Apart tc y td z ∧ OwnI wr rb row (hnd L) ∧ RowOff row tc y ∧ RowOff row td z ∧ Ext w wr)
          (fun iv _ => m - (intOf iv).toNat)
        case atStart => exact ⟨0, by omega, rfl, _, _, L, nx, HW.out, C6.out, D6.out, T6.out, P3.out, P4.out, R4.out, O6.out, OC.out, OD.out, X6.out⟩
        case round =>
          clear C6 D6 T6 P3 P4 R4 O6 OC OD X6
          obtain ⟨k, hk, rfl, y, z, M, mx, hw, hC, hD, hT, hP, hP', hR, hO, hoc, hod, hX⟩ := hrel
          have HM := Lib.hid hw
          have C0 := Lib.hid hC
          have D0 := Lib.hid hD
          have T0 := Lib.hid hT
          have P0 := Lib.hid hP
          have P0' := Lib.hid hP'
          have R0 := Lib.hid hR
          have O0 := Lib.hid hO
          have OC0 := Lib.hid hoc
          have OD0 := Lib.hid hod
          have X0 := Lib.hid hX
          clear hw hC hD hT hP hP' hR hO hoc hod hX
          by_cases hlt' : k < m
          · have hki : (k : Int) < (m : Int) := by omega
            obtain ⟨a, rfl, c0, c1, c2⟩ := HD.out k hlt'
            obtain ⟨⟨d, b, x⟩, hx⟩ : ∃ t, D k = t := ⟨_, rfl⟩
            rw [hx] at c0 c1 c2
            simp only at c0 c1 c2
            have c0 := X0.out.cell c0
            have c1 := X0.out.cell c1
            have c2 := X0.out.cell c2
            clear hx
            obtain ⟨ad, had⟩ : ∃ ad, a.add (k * 3) = ad := ⟨_, rfl⟩
            rw [had] at c0 c1 c2
            have c1 : wr.cell? ⟨ad.block, ad.off + 1, none⟩ = some (.int .i64 b) := c1
            have c2 : wr.cell? ⟨ad.block, ad.off + 2, none⟩ = some (.int .u64 x) := c2
            have XA := Lib.hid ((Ext.refl wr).alloc (.cells #[.int .i64 d, .int .i64 b, .int .u64 x] 32))
            have CA := Lib.hid (act_cells wr d b x)
            have hn0 : y.ownBlock ≠ some wr.heap.size := fun e => by have := C0.out.own.lt _ e; omega
            have hzc := C0.out.lt
            have C1 := Lib.hid (C0.out.ext XA.out)
            have D1 := Lib.hid (D0.out.ext XA.out)
            have T1 := Lib.hid (T0.out.ext XA.out)
            have O1 := Lib.hid (O0.out.ext XA.out)
            have X1 := Lib.hid (X0.out.trans XA.out)
            have N0 := Lib.hid hn0
            obtain ⟨R, hR⟩ : ∃ R, doR d b M mx = R := ⟨_, rfl⟩
            obtain ⟨E, hE⟩ : ∃ R, doE d b M mx = R := ⟨_, rfl⟩
            obtain ⟨M', hM'⟩ : ∃ R, doL d b x M mx = R := ⟨_, rfl⟩
            obtain ⟨mx', hmx'⟩ : ∃ R, doN d b M mx = R := ⟨_, rfl⟩
            have HC := tDo C1.out HM.out d b x
            have HE := fun (w' : World) (h : Tab RT w.heap.size w' td z M mx) => tDo h HM.out d b x
            have W' := HM.out.act d b x
            rw [hR, hE, hM', hmx'] at HC
            simp only [hR, hE, hM', hmx'] at HE
            rw [hM', hmx'] at W'
            have HC := Lib.hid HC
            have HE := Lib.hid HE
            have HM' := Lib.hid W'
            clear hR hE hM' hmx' W' hn0 C0 D0 T0 O0 X0
            go_wp2_with fail
            refine HC.out.mono ?_
            rintro e w7 ⟨y', rfl, hC, hG⟩
            have C7 := Lib.hid hC
            have D7 := Lib.hid (D1.out.other R0.out hG)
            have T7 := Lib.hid (T1.out.other P0.out.symm hG)
            have R7 := Lib.hid (R0.out.chg D1.out hG)
            have P7 := Lib.hid (P0.out.symm.chg T1.out hG).symm
            have O7 := Lib.hid (O1.out.chg OC0.out hG).1
            have OC7 := Lib.hid (O1.out.chg OC0.out hG).2
            have X7 := Lib.hid (C1.out.up hG X1.out (Nat.le_refl _))
            have CB := Lib.hid (hG.cells (by omega) N0.out CA.out)
            have d0 := (CB.out 0 (by simp)).1
            have d1 := (CB.out 1 (by simp)).1
            have d2 := (CB.out 2 (by simp)).1
            simp only [List.getElem_cons_zero, List.getElem_cons_succ] at d0 d1 d2
            clear hC hG C1 D1 T1 R0 P0 O1 OC0 X1 CA CB XA HC c0 c1 c2
            go_wp2_with fail
            refine (HE.out _ D7.out).mono ?_
            rintro e w8 ⟨z', rfl, hD, hG⟩
            have D8 := Lib.hid hD
            have C8 := Lib.hid (C7.out.other R7.out.symm hG)
            have T8 := Lib.hid (T7.out.other P0'.out.symm hG)
            have R8 := Lib.hid (R7.out.symm.chg C7.out hG).symm
            have P8 := Lib.hid (P0'.out.symm.chg T7.out hG).symm
            have O8 := Lib.hid (O7.out.chg OD0.out hG).1
            have OD8 := Lib.hid (O7.out.chg OD0.out hG).2
            have X8 := Lib.hid (D7.out.up hG X7.out (Nat.le_refl _))
            clear hD hG C7 D7 T7 R7 P0' O7 OD0 X7 HE d0 d1 d2
            go_wp2_with fail
            refine (tHandles C8.out HM'.out.len).mono ?_
            rintro e w9 ⟨r1, rfl, ho, hx⟩
            have Y9 := Lib.hid hx
            have Z9 := Lib.hid ho
            clear ho hx
            go_wp2_with fail
            refine (tHandles (D8.out.ext Y9.out) HM'.out.len).mono ?_
            rintro e w10 ⟨r2, rfl, ho, hx⟩
            have Y10 := Lib.hid (Y9.out.trans hx)
            have Z10 := Lib.hid (Z9.out.ext hx)
            have Q10 := Lib.hid ho
            clear ho hx
            go_wp2_with fail
            refine (rInts _ _ (hnd M') (by rw [hnd_length]; have := HM'.out.len; omega) _ Z10.out.reads Q10.out.reads).mono ?_
            rintro e w11 ⟨rfl, hx⟩
            have Y11 := Lib.hid (Y10.out.trans hx)
            clear hx
            go_wp2_with fail
            refine (tNext (C8.out.ext Y11.out)).mono ?_
            rintro e w12 ⟨rfl, hx⟩
            have Y12 := Lib.hid (Y11.out.trans hx)
            clear hx
            go_wp2_with fail
            refine (tNext (D8.out.ext Y12.out)).mono ?_
            rintro e w13 ⟨rfl, hx⟩
            have Y13 := Lib.hid (Y12.out.trans hx)
            clear hx
            go_wp2_with fail
            go_roundw
            case rel => exact ⟨k + 1, by omega, by simp, y', z', M', mx', HM'.out, C8.out.ext Y13.out, D8.out.ext Y13.out, T8.out.ext Y13.out, P7.out, P8.out, R8.out, O8.out.ext Y13.out, OC7.out, OD8.out, X8.out.trans Y13.out⟩
            case measure => simp [intOf]; omega
          · clear HD
            go_wp2_with fail
            refine (tHandles T0.out HL16.out).mono ?_
            rintro e w7 ⟨r1, rfl, ho, hx⟩
            have O7 := Lib.hid (O0.out.ext hx)
            have Z7 := Lib.hid ho
            have T7 := Lib.hid (T0.out.ext hx)
            have X7 := Lib.hid (X0.out.trans hx)
            clear ho hx
            go_wp2_with fail
            refine (rInts _ _ (hnd L) (by rw [hnd_length]; have := HL16.out; omega) _ Z7.out.reads O7.out.reads).mono ?_
            rintro e w8 ⟨rfl, hx⟩
            have T8 := Lib.hid (T7.out.ext hx)
            have X8 := Lib.hid (X7.out.trans hx)
            clear hx
            go_wp2_with fail
            refine (tNext T8.out).mono ?_
            rintro e w9 ⟨rfl, hx⟩
            have X9 := Lib.hid (X8.out.trans hx)
            clear hx
            go_wp2
            go_ret
            exact ⟨by simp, X9.out⟩
end Go.Proofs.Ytjjapblpmpidcaa
