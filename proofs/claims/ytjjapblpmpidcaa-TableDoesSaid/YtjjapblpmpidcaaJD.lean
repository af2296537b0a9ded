import Derived.Test.YtjjapblpmpidcaaJC
import Derived.Test.YtjjapblpmpidcaaR5
set_option linter.unusedVariables false
set_option linter.unusedSimpArgs false
namespace Go.Proofs.Ytjjapblpmpidcaa
open Go.RowKit UReg

/-! ### TableDoes -/
/-- The act's result by the reference: in each of the five cases. -/
theorem UReg.Tab.ofCells {e : TypeId} {B tb : Nat} {w : World} (h : Cells w tb [.slice none 0 0, .int .i64 0]) (hB : B ≤ tb) : Tab e B w tb (.slice none 0 0) [] 0 := ⟨own_nil _ _ _ _, h, by simp [Value.ownBlock], hB⟩
theorem rIntsG (u v : Value) (xs : List Int) (hn : xs.length ≤ 1000) (w : World) (hu : Reads w .i64 u xs) (hv : Reads w .i64 v xs) : Calls Try.prog 23 #[u, v] w fun e w' =>
    ∃ y, e = .returned y ∧ y = .bool true ∧ Ext w w' := by
  refine (rInts u v xs hn w hu hv).mono ?_
  rintro e w' ⟨rfl, hx⟩
  exact ⟨_, rfl, rfl, hx⟩
set_option maxRecDepth 100000 in
set_option maxHeartbeats 8000000 in
theorem tableDoes_walk (v : Value) (h : Int) (_ : (Lit.int .i64 h).wf = true) (w : World) (hv : ActArg w v) :
    Calls Try.prog 3 #[v, .int .i64 h] w fun e w' => e = .returned (.bool true) ∧ Ext w w' := by
  obtain ⟨p, n, cap, A, rfl, hn, hA⟩ := hv
  have HA := Lib.hid hA; clear hA
  unfold maxLen at hn
  by_cases hm : 100 < n
  · have t1 : decide ((100 : Int) < (n : Int)) = true := decide_eq_true (by omega)
    go_enter Try.func3, Try.ntmps3
    go_wp2_with fail
    refine (awake19 _).mono ?_
    rintro e w1 ⟨rfl, hx⟩
    have X1 := Lib.hid hx; clear hx
    go_wp2
    go_ret
    exact ⟨rfl, X1.out⟩
  · have t1 : decide ((100 : Int) < (n : Int)) = false := decide_eq_false (by omega)
    have hn' : n ≤ 100 := by omega
    clear hm hn
    go_enter Try.func3, Try.ntmps3
    go_wp2_with fail
    refine (awake19 _).mono ?_
    rintro e w1 ⟨rfl, hx⟩
    have X1 := Lib.hid hx; clear hx
    go_wp2_with fail
    refine (tNew _).mono ?_
    rintro e w2 ⟨rfl, hT, hx⟩
    obtain ⟨tb, htb⟩ : ∃ tb, w1.heap.size = tb := ⟨_, rfl⟩
    rw [htb] at hT ⊢
    have T2 := Lib.hid (hT.ext ((Ext.refl w2).alloc (.cells #[.slice none 0 0, .int .i64 0] 30)))
    have X2 := Lib.hid ((X1.out.trans hx).alloc (.cells #[.slice none 0 0, .int .i64 0] 30))
    have hB0 : w.heap.size ≤ tb := by rw [← htb]; exact X1.out.size
    have HB := Lib.hid hB0
    have hlt := hT.lt
    obtain ⟨qb, hqb⟩ : ∃ qb, w2.heap.size = qb := ⟨_, rfl⟩
    have hQ : Tab QT tb (w2.alloc (.cells #[.slice none 0 0, .int .i64 0] 30)) w2.heap.size (.slice none 0 0) [] 0 :=
      .ofCells (Cells.mk2 (by go_simp <;> rfl) (by go_simp <;> rfl) (by go_simp) (by go_simp)) (by omega)
    have Q2 := Lib.hid hQ
    have A2 := Lib.hid (show Apart tb (.slice none 0 0) w2.heap.size (.slice none 0 0) from ⟨by omega, by simp [Value.ownBlock], by simp [Value.ownBlock], by simp [Value.ownBlock]⟩)
    rw [hqb] at Q2 A2
    clear hT hx htb hB0 hlt hQ
    go_wp2_with fail
    clear hqb
    go_loopw [29] (fun iv wr => ∃ k : Nat, k ≤ n ∧ iv = .int .i64 k ∧ ∃ (v u : Value) (L : List (Int × Int)) (nx : Int), WT L nx ∧ Tab RT tb wr tb v L nx ∧ Tab QT tb wr qb u L nx ∧ Apart tb v qb u ∧ Ext w wr)
      (fun iv _ => n - (intOf iv).toNat)
    case atStart => exact ⟨0, by omega, rfl, _, _, [], 0, wt_nil, T2.out, Q2.out, A2.out, X2.out⟩
    case round =>
      clear T2 Q2 A2 X2
      obtain ⟨k, hk, rfl, v, u, L, nx, hw, hT, hQ, hAp, hX⟩ := hrel
      have HW := Lib.hid hw
      have T0 := Lib.hid hT
      have Q0 := Lib.hid hQ
      have A0 := Lib.hid hAp
      have X0 := Lib.hid hX
      clear hw hT hQ hAp hX
      by_cases hlt : k < n
      · have hki : (k : Int) < (n : Int) := by omega
        obtain ⟨a, rfl, c0, c1, c2⟩ := HA.out k hlt
        obtain ⟨⟨d, b, x⟩, hx⟩ : ∃ t, A k = t := ⟨_, rfl⟩
        rw [hx] at c0 c1 c2
        simp only at c0 c1 c2
        have c0 := X0.out.cell c0
        have c1 := X0.out.cell c1
        have c2 := X0.out.cell c2
        clear hx
        obtain ⟨ad, had⟩ : ∃ ad, a.add (k * 3) = ad := ⟨_, rfl⟩
        rw [had] at c0 c1 c2
        have c1 : wr.cell? ⟨ad.block, ad.off + 1, none⟩ = some (.int .i64 b) := c1
        have c2 : wr.cell? ⟨ad.block, ad.off + 2, none⟩ = some (.int .u64 x) := c2
        have X1 := Lib.hid ((Ext.refl wr).alloc (.cells #[.int .i64 d, .int .i64 b, .int .u64 x] 32))
        have T1 := Lib.hid (T0.out.ext X1.out)
        have Q1 := Lib.hid (Q0.out.ext X1.out)
        have hC1 : Cells (wr.alloc (.cells #[.int .i64 d, .int .i64 b, .int .u64 x] 32)) wr.heap.size [.int .i64 d, .int .i64 b, .int .u64 x] :=
          fun j hj => by match j, hj with | 0, _ => exact ⟨by go_simp <;> rfl, by go_simp⟩ | 1, _ => exact ⟨by go_simp <;> rfl, by go_simp⟩ | 2, _ => exact ⟨by go_simp <;> rfl, by go_simp⟩
        have C1 := Lib.hid hC1
        have hz0 := T0.out.lt
        have hz1 := Q0.out.lt
        have hn0 : v.ownBlock ≠ some wr.heap.size := fun e => by have := T0.out.own.lt _ e; omega
        have hn1 : u.ownBlock ≠ some wr.heap.size := fun e => by have := Q0.out.own.lt _ e; omega
        have N0 := Lib.hid hn0
        have N1 := Lib.hid hn1
        obtain ⟨R, hR⟩ : ∃ R, doR d b L nx = R := ⟨_, rfl⟩
        obtain ⟨E, hE⟩ : ∃ R, doE d b L nx = R := ⟨_, rfl⟩
        obtain ⟨L', hL'⟩ : ∃ R, doL d b x L nx = R := ⟨_, rfl⟩
        obtain ⟨nx', hnx'⟩ : ∃ R, doN d b L nx = R := ⟨_, rfl⟩
        have HD := tDo T1.out HW.out d b x
        have W' := HW.out.act d b x
        rw [hR, hE, hL', hnx'] at HD
        rw [hL', hnx'] at W'
        have HD := Lib.hid HD
        have HW' := Lib.hid W'
        have HR := Lib.hid hR
        have HE := Lib.hid hE
        have HL := Lib.hid hL'
        have HN := Lib.hid hnx'
        clear hR hE hL' hnx' hn0 hn1 hC1 W'
        go_wp2_with fail
        refine HD.out.mono ?_
        rintro e w3 ⟨v', rfl, hT, hG⟩
        have T3 := Lib.hid hT
        have A3 := Lib.hid (A0.out.chg Q1.out hG)
        have Q3 := Lib.hid (Q1.out.other A0.out hG)
        have X3 := Lib.hid (T1.out.up hG (X0.out.trans X1.out) HB.out)
        have C3 := Lib.hid (hG.cells (by omega) N0.out C1.out)
        have N3 := Lib.hid (hG.ne N0.out (by simp))
        have y3 := hG.size
        simp at y3
        have z3 : wr.heap.size < w3.heap.size := by omega
        have d0 := (C3.out 0 (by simp)).1
        have d1 := (C3.out 1 (by simp)).1
        have d2 := (C3.out 2 (by simp)).1
        have f0 := (C3.out 0 (by simp)).2
        simp only [List.getElem_cons_zero, List.getElem_cons_succ] at d0 d1 d2
        clear hT hG T0 T1 Q0 Q1 A0 X0 X1 C1 N0 c0 c1 c2 HD y3
        by_cases h0 : d = 0
        · subst h0
          have e1 : addR L nx = R := HR.out
          have e2 : addE L nx = E := HE.out
          have e3 : addL L nx x = L' := HL.out
          have e4 : addN L nx = nx' := HN.out
          have HC := qAdd Q3.out HW.out x
          rw [e1, e2, e3, e4] at HC
          have HC := Lib.hid HC
          clear e1 e2 e3 e4
          go_wp2_with fail
          refine HC.out.mono ?_
          rintro e w4 ⟨u', rfl, hQ, hG⟩
          have Q4 := Lib.hid hQ
          have T4 := Lib.hid (T3.out.other A3.out.symm hG)
          have A4 := Lib.hid (A3.out.symm.chg T3.out hG).symm
          have X4 := Lib.hid (Q3.out.up hG X3.out HB.out)
          clear hQ hG Q3 T3 A3 X3 d0 d1 d2 f0 z3
          have HG1 := Lib.hid (tGet T4.out HW'.out h)
          have HG2 := Lib.hid fun (w5 : World) (x : Ext w4 w5) => qGet (Q4.out.ext x) HW'.out.len h
          obtain ⟨V, hV⟩ : ∃ V, val h L' = V := ⟨_, rfl⟩
          obtain ⟨F, hF⟩ : ∃ V, has h L' = V := ⟨_, rfl⟩
          rw [hV, hF] at HG1 HG2
          clear hV hF
          go_wp2_with fail
          refine HG1.out.mono ?_
          rintro e w5 ⟨rfl, hx⟩
          have X5 := Lib.hid hx; clear hx
          go_wp2_with fail
          refine (HG2.out _ X5.out).mono ?_
          rintro e w6 ⟨rfl, hx⟩
          have X6 := Lib.hid (X5.out.trans hx); clear hx
          have T6 := Lib.hid (T4.out.ext X6.out)
          have Q6 := Lib.hid (Q4.out.ext X6.out)
          obtain ⟨q0, q1, qf0, qf1⟩ := Q6.out.cells.two
          have zq := Q6.out.lt
          clear HG1 HG2 X5
          try dsimp only
          repeat (first | with_reducible refine wp_region_ext ?_ [(0, 0), (1, 0), (2, 0), (3, 0), (4, 0), (5, 0), (6, 0), (7, 0), (8, 0), (9, 0), (10, 0), (11, 0), (12, 0), (13, 0), (14, 0), (15, 0), (16, 0), (17, 0), (18, 0), (19, 0), (20, 1), (21, 0), (22, 0), (23, 0), (24, 1), (25, 0), (26, 0), (27, 0), (28, 0), (30, 0), (29, 2), (31, 2), (32, 2), (33, 0), (34, 0)] (fun _ => true) ?_ ?_ ?_ ?_ ?_ | go_step)
          · kernel_rfl
          · kernel_rfl
          · kernel_rfl
          · kernel_rfl
          · exact (fun _ _ d _ _ h => by cases d <;> exact h)
          refine run_pure (o := ?_) (v := ?_) (a' := ?_) ?_ ?_ ?_ ?_ ?_
          rotate_left 3
          · (simp only [List.getElem?_toArray, List.getElem?_cons_succ, List.getElem?_cons_zero] <;> rfl)
          · rfl
          · intro w'
            go_simp
            with_reducible rfl
          · simp only [Act.put, List.setIfInBounds_toArray, List.set_cons_zero, List.set_cons_succ]
            rfl
          refine run_pure (o := ?_) (v := ?_) (a' := ?_) ?_ ?_ ?_ ?_ ?_
          rotate_left 3
          · (simp only [List.getElem?_toArray, List.getElem?_cons_succ, List.getElem?_cons_zero] <;> rfl)
          · rfl
          · intro w'
            go_simp
            with_reducible rfl
          · simp only [Act.put, List.setIfInBounds_toArray, List.set_cons_zero, List.set_cons_succ]
            rfl
          refine run_pure (o := ?_) (v := ?_) (a' := ?_) ?_ ?_ ?_ ?_ ?_
          rotate_left 3
          · (simp only [List.getElem?_toArray, List.getElem?_cons_succ, List.getElem?_cons_zero] <;> rfl)
          · rfl
          · intro w'
            go_simp
            with_reducible rfl
          · simp only [Act.put, List.setIfInBounds_toArray, List.set_cons_zero, List.set_cons_succ]
            rfl
          refine run_pure (o := ?_) (v := ?_) (a' := ?_) ?_ ?_ ?_ ?_ ?_
          rotate_left 3
          · (simp only [List.getElem?_toArray, List.getElem?_cons_succ, List.getElem?_cons_zero] <;> rfl)
          · rfl
          · intro w'
            go_simp
            with_reducible rfl
          · simp only [Act.put, List.setIfInBounds_toArray, List.set_cons_zero, List.set_cons_succ]
            rfl
          refine run_pure (o := ?_) (v := ?_) (a' := ?_) ?_ ?_ ?_ ?_ ?_
          rotate_left 3
          · (simp only [List.getElem?_toArray, List.getElem?_cons_succ, List.getElem?_cons_zero] <;> rfl)
          · rfl
          · intro w'
            go_simp
            with_reducible rfl
          · simp only [Act.put, List.setIfInBounds_toArray, List.set_cons_zero, List.set_cons_succ]
            rfl
          refine run_pure (o := ?_) (v := ?_) (a' := ?_) ?_ ?_ ?_ ?_ ?_
          rotate_left 3
          · (simp only [List.getElem?_toArray, List.getElem?_cons_succ, List.getElem?_cons_zero] <;> rfl)
          · rfl
          · intro w'
            go_simp
            with_reducible rfl
          · simp only [Act.put, List.setIfInBounds_toArray, List.set_cons_zero, List.set_cons_succ]
            rfl
          refine run_pure (o := ?_) (v := ?_) (a' := ?_) ?_ ?_ ?_ ?_ ?_
          rotate_left 3
          · (simp only [List.getElem?_toArray, List.getElem?_cons_succ, List.getElem?_cons_zero] <;> rfl)
          · rfl
          · intro w'
            go_simp
            with_reducible rfl
          · simp only [Act.put, List.setIfInBounds_toArray, List.set_cons_zero, List.set_cons_succ]
            rfl
          refine run_pure (o := ?_) (v := ?_) (a' := ?_) ?_ ?_ ?_ ?_ ?_
          rotate_left 3
          · (simp only [List.getElem?_toArray, List.getElem?_cons_succ, List.getElem?_cons_zero] <;> rfl)
          · rfl
          · intro w'
            go_simp
            with_reducible rfl
          · simp only [Act.put, List.setIfInBounds_toArray, List.set_cons_zero, List.set_cons_succ]
            rfl
          refine run_pure (o := ?_) (v := ?_) (a' := ?_) ?_ ?_ ?_ ?_ ?_
          rotate_left 3
          · (simp only [List.getElem?_toArray, List.getElem?_cons_succ, List.getElem?_cons_zero] <;> rfl)
          · rfl
          · intro w'
            go_simp
            with_reducible rfl
          · simp only [Act.put, List.setIfInBounds_toArray, List.set_cons_zero, List.set_cons_succ]
            rfl
          refine run_pure (o := ?_) (v := ?_) (a' := ?_) ?_ ?_ ?_ ?_ ?_
          rotate_left 3
          · (simp only [List.getElem?_toArray, List.getElem?_cons_succ, List.getElem?_cons_zero] <;> rfl)
          · rfl
          · intro w'
            go_simp
            with_reducible rfl
          · simp only [Act.put, List.setIfInBounds_toArray, List.set_cons_zero, List.set_cons_succ]
            rfl
          refine run_pure (o := ?_) (v := ?_) (a' := ?_) ?_ ?_ ?_ ?_ ?_
          rotate_left 3
          · (simp only [List.getElem?_toArray, List.getElem?_cons_succ, List.getElem?_cons_zero] <;> rfl)
          · rfl
          · intro w'
            go_simp
            with_reducible rfl
          · simp only [Act.put, List.setIfInBounds_toArray, List.set_cons_zero, List.set_cons_succ]
            rfl
          refine run_pure (o := ?_) (v := ?_) (a' := ?_) ?_ ?_ ?_ ?_ ?_
          rotate_left 3
          · (simp only [List.getElem?_toArray, List.getElem?_cons_succ, List.getElem?_cons_zero] <;> rfl)
          · rfl
          · intro w'
            go_simp
            with_reducible rfl
          · simp only [Act.put, List.setIfInBounds_toArray, List.set_cons_zero, List.set_cons_succ]
            rfl
          refine run_pure (o := ?_) (v := ?_) (a' := ?_) ?_ ?_ ?_ ?_ ?_
          rotate_left 3
          · (simp only [List.getElem?_toArray, List.getElem?_cons_succ, List.getElem?_cons_zero] <;> rfl)
          · rfl
          · intro w'
            go_simp
            with_reducible rfl
          · simp only [Act.put, List.setIfInBounds_toArray, List.set_cons_zero, List.set_cons_succ]
            rfl
          refine run_pure (o := ?_) (v := ?_) (a' := ?_) ?_ ?_ ?_ ?_ ?_
          rotate_left 3
          · (simp only [List.getElem?_toArray, List.getElem?_cons_succ, List.getElem?_cons_zero] <;> rfl)
          · rfl
          · intro w'
            go_simp
            with_reducible rfl
          · simp only [Act.put, List.setIfInBounds_toArray, List.set_cons_zero, List.set_cons_succ]
            rfl
          refine run_pure (o := ?_) (v := ?_) (a' := ?_) ?_ ?_ ?_ ?_ ?_
          rotate_left 3
          · (simp only [List.getElem?_toArray, List.getElem?_cons_succ, List.getElem?_cons_zero] <;> rfl)
          · rfl
          · intro w'
            go_simp
            with_reducible rfl
          · simp only [Act.put, List.setIfInBounds_toArray, List.set_cons_zero, List.set_cons_succ]
            rfl
          refine run_pure (o := ?_) (v := ?_) (a' := ?_) ?_ ?_ ?_ ?_ ?_
          rotate_left 3
          · (simp only [List.getElem?_toArray, List.getElem?_cons_succ, List.getElem?_cons_zero] <;> rfl)
          · rfl
          · intro w'
            go_simp
            with_reducible rfl
          · simp only [Act.put, List.setIfInBounds_toArray, List.set_cons_zero, List.set_cons_succ]
            rfl
          refine run_pure (o := ?_) (v := ?_) (a' := ?_) ?_ ?_ ?_ ?_ ?_
          rotate_left 3
          · (simp only [List.getElem?_toArray, List.getElem?_cons_succ, List.getElem?_cons_zero] <;> rfl)
          · rfl
          · intro w'
            go_simp
            with_reducible rfl
          · simp only [Act.put, List.setIfInBounds_toArray, List.set_cons_zero, List.set_cons_succ]
            rfl
          refine run_pure (o := ?_) (v := ?_) (a' := ?_) ?_ ?_ ?_ ?_ ?_
          rotate_left 3
          · (simp only [List.getElem?_toArray, List.getElem?_cons_succ, List.getElem?_cons_zero] <;> rfl)
          · rfl
          · intro w'
            go_simp
            with_reducible rfl
          · simp only [Act.put, List.setIfInBounds_toArray, List.set_cons_zero, List.set_cons_succ]
            rfl
          refine run_pure (o := ?_) (v := ?_) (a' := ?_) ?_ ?_ ?_ ?_ ?_
          rotate_left 3
          · (simp only [List.getElem?_toArray, List.getElem?_cons_succ, List.getElem?_cons_zero] <;> rfl)
          · rfl
          · intro w'
            go_simp
            with_reducible rfl
          · simp only [Act.put, List.setIfInBounds_toArray, List.set_cons_zero, List.set_cons_succ]
            rfl
          refine run_pure (o := ?_) (v := ?_) (a' := ?_) ?_ ?_ ?_ ?_ ?_
          rotate_left 3
          · (simp only [List.getElem?_toArray, List.getElem?_cons_succ, List.getElem?_cons_zero] <;> rfl)
          · rfl
          · intro w'
            go_simp
            with_reducible rfl
          · simp only [Act.put, List.setIfInBounds_toArray, List.set_cons_zero, List.set_cons_succ]
            rfl
          refine run_call (f := 22) (args := ?_) (o := ?_) (v := ?_) (a' := ?_) ?_ ?_ ?_ ?_ ?_ (Ext.refl _) ?_
          rotate_left 4
          · (simp only [List.getElem?_toArray, List.getElem?_cons_succ, List.getElem?_cons_zero] <;> rfl)
          · rfl
          · intro w'
            go_simp
            with_reducible rfl
          · intro w' hw'
            exact (tNext (T6.out.ext hw'))
          · simp only [Act.put, List.setIfInBounds_toArray, List.set_cons_zero, List.set_cons_succ]
            rfl
          refine run_pure (o := ?_) (v := ?_) (a' := ?_) ?_ ?_ ?_ ?_ ?_
          rotate_left 3
          · (simp only [List.getElem?_toArray, List.getElem?_cons_succ, List.getElem?_cons_zero] <;> rfl)
          · rfl
          · intro w'
            go_simp
            with_reducible rfl
          · simp only [Act.put, List.setIfInBounds_toArray, List.set_cons_zero, List.set_cons_succ]
            rfl
          refine run_pure (o := ?_) (v := ?_) (a' := ?_) ?_ ?_ ?_ ?_ ?_
          rotate_left 3
          · (simp only [List.getElem?_toArray, List.getElem?_cons_succ, List.getElem?_cons_zero] <;> rfl)
          · rfl
          · intro w'
            go_simp
            with_reducible rfl
          · simp only [Act.put, List.setIfInBounds_toArray, List.set_cons_zero, List.set_cons_succ]
            rfl
          refine run_pure (o := ?_) (v := ?_) (a' := ?_) ?_ ?_ ?_ ?_ ?_
          rotate_left 3
          · (simp only [List.getElem?_toArray, List.getElem?_cons_succ, List.getElem?_cons_zero] <;> rfl)
          · rfl
          · intro w'
            go_simp
            with_reducible rfl
          · simp only [Act.put, List.setIfInBounds_toArray, List.set_cons_zero, List.set_cons_succ]
            rfl
          refine run_read (o := ?_) (v := ?_) (a' := ?_) ?_ ?_ ?_ ?_ (Ext.refl _) ?_
          rotate_left 3
          · (simp only [List.getElem?_toArray, List.getElem?_cons_succ, List.getElem?_cons_zero] <;> rfl)
          · rfl
          · intro w' hw'
            obtain ⟨hc, hf⟩ := ext_cell hw'
            clear hw'
            go_simp
            with_reducible rfl
          · simp only [Act.put, List.setIfInBounds_toArray, List.set_cons_zero, List.set_cons_succ]
            rfl
          refine run_pure (o := ?_) (v := ?_) (a' := ?_) ?_ ?_ ?_ ?_ ?_
          rotate_left 3
          · (simp only [List.getElem?_toArray, List.getElem?_cons_succ, List.getElem?_cons_zero] <;> rfl)
          · rfl
          · intro w'
            go_simp
            with_reducible rfl
          · simp only [Act.put, List.setIfInBounds_toArray, List.set_cons_zero, List.set_cons_succ]
            rfl
          refine run_pure (o := ?_) (v := ?_) (a' := ?_) ?_ ?_ ?_ ?_ ?_
          rotate_left 3
          · (simp only [List.getElem?_toArray, List.getElem?_cons_succ, List.getElem?_cons_zero] <;> rfl)
          · rfl
          · intro w'
            go_simp
            with_reducible rfl
          · simp only [Act.put, List.setIfInBounds_toArray, List.set_cons_zero, List.set_cons_succ]
            rfl
          refine run_pure (o := ?_) (v := ?_) (a' := ?_) ?_ ?_ ?_ ?_ ?_
          rotate_left 3
          · (simp only [List.getElem?_toArray, List.getElem?_cons_succ, List.getElem?_cons_zero] <;> rfl)
          · rfl
          · intro w'
            go_simp
            with_reducible rfl
          · simp only [Act.put, List.setIfInBounds_toArray, List.set_cons_zero, List.set_cons_succ]
            rfl
          refine run_pure (o := ?_) (v := ?_) (a' := ?_) ?_ ?_ ?_ ?_ ?_
          rotate_left 3
          · (simp only [List.getElem?_toArray, List.getElem?_cons_succ, List.getElem?_cons_zero] <;> rfl)
          · rfl
          · intro w'
            go_simp
            with_reducible rfl
          · simp only [Act.put, List.setIfInBounds_toArray, List.set_cons_zero, List.set_cons_succ]
            rfl
          refine run_pure (o := ?_) (v := ?_) (a' := ?_) ?_ ?_ ?_ ?_ ?_
          rotate_left 3
          · (simp only [List.getElem?_toArray, List.getElem?_cons_succ, List.getElem?_cons_zero] <;> rfl)
          · rfl
          · intro w'
            go_simp
            with_reducible rfl
          · simp only [Act.put, List.setIfInBounds_toArray, List.set_cons_zero, List.set_cons_succ]
            rfl
          refine run_callG (f := 24) (args := ?_) (o := ?_) (Φ := fun w2 v w' => OwnI w' w2.heap.size v (hnd L')) ?_ ?_ ?_ ?_ ?_ (fun g1a y1 g1 hx0 hy1 hx => ?_)
          rotate_left 2
          · (simp only [List.getElem?_toArray, List.getElem?_cons_succ, List.getElem?_cons_zero] <;> rfl)
          · rfl
          · intro w'
            go_simp
            with_reducible rfl
          · intro w2 hx2
            obtain ⟨hc, hf⟩ := ext_cell hx2
            exact tHandles (T6.out.ext hx2) HW'.out.len
          · exact fun _ _ h k => h.trans k
          have hz_g1 := hx0.size
          have hy_g1 := hx.size
          try simp at hz_g1
          try simp at hy_g1
          have hx := hx0.trans hx
          clear hx0
          have hc_g1 := (ext_cell hx).1
          have hf_g1 := (ext_cell hx).2
          have HX_g1 := Lib.hid hx
          have y_g1 := hx.size
          try simp at y_g1
          clear hx
          try simp only [Act.put, List.setIfInBounds_toArray, List.set_cons_zero, List.set_cons_succ]
          refine run_callG (f := 25) (args := ?_) (o := ?_) (Φ := fun w2 v w' => OwnI w' w2.heap.size v (hnd L')) ?_ ?_ ?_ ?_ ?_ (fun g2a y2 g2 hx0 hy2 hx => ?_)
          rotate_left 2
          · (simp only [List.getElem?_toArray, List.getElem?_cons_succ, List.getElem?_cons_zero] <;> rfl)
          · rfl
          · intro w'
            go_simp
            with_reducible rfl
          · intro w2 hx2
            obtain ⟨hc, hf⟩ := ext_cell hx2
            exact qHandles (Q6.out.ext (HX_g1.out.trans hx2)) HW'.out.len
          · exact fun _ _ h k => h.trans k
          have hz_g2 := hx0.size
          have hy_g2 := hx.size
          try simp at hz_g2
          try simp at hy_g2
          have hx := hx0.trans hx
          clear hx0
          have hc_g2 := (ext_cell hx).1
          have hf_g2 := (ext_cell hx).2
          have HX_g2 := Lib.hid hx
          have y_g2 := hx.size
          try simp at y_g2
          clear hx
          try simp only [Act.put, List.setIfInBounds_toArray, List.set_cons_zero, List.set_cons_succ]
          refine run_callG (f := 23) (args := ?_) (o := ?_) (Φ := fun w2 v w' => v = .bool true) ?_ ?_ ?_ ?_ ?_ (fun g3a y3 g3 hx0 hy3 hx => ?_)
          rotate_left 2
          · (simp only [List.getElem?_toArray, List.getElem?_cons_succ, List.getElem?_cons_zero] <;> rfl)
          · rfl
          · intro w'
            go_simp
            with_reducible rfl
          · intro w2 hx2
            obtain ⟨hc, hf⟩ := ext_cell hx2
            exact rIntsG _ _ (hnd L') (by rw [hnd_length]; have := HW'.out.len; omega) w2 (hy1.reads.ext (HX_g2.out.trans hx2)) (hy2.reads.ext hx2)
          · exact fun _ _ h k => h.trans k
          have hz_g3 := hx0.size
          have hy_g3 := hx.size
          try simp at hz_g3
          try simp at hy_g3
          have hx := hx0.trans hx
          clear hx0
          have hc_g3 := (ext_cell hx).1
          have hf_g3 := (ext_cell hx).2
          have HX_g3 := Lib.hid hx
          have y_g3 := hx.size
          try simp at y_g3
          clear hx
          subst hy3
          try simp only [Act.put, List.setIfInBounds_toArray, List.set_cons_zero, List.set_cons_succ]
          refine run_pure (o := ?_) (v := ?_) (a' := ?_) ?_ ?_ ?_ ?_ ?_
          rotate_left 3
          · (simp only [List.getElem?_toArray, List.getElem?_cons_succ, List.getElem?_cons_zero] <;> rfl)
          · rfl
          · intro w'
            go_simp
            with_reducible rfl
          · simp only [Act.put, List.setIfInBounds_toArray, List.set_cons_zero, List.set_cons_succ]
            rfl
          refine run_pure (o := ?_) (v := ?_) (a' := ?_) ?_ ?_ ?_ ?_ ?_
          rotate_left 3
          · (simp only [List.getElem?_toArray, List.getElem?_cons_succ, List.getElem?_cons_zero] <;> rfl)
          · rfl
          · intro w'
            go_simp
            with_reducible rfl
          · simp only [Act.put, List.setIfInBounds_toArray, List.set_cons_zero, List.set_cons_succ]
            rfl
          refine run_nil (fun g4 hx => ?_)
          have hc_g4 := (ext_cell hx).1
          have hf_g4 := (ext_cell hx).2
          have HX_g4 := Lib.hid hx
          have y_g4 := hx.size
          try simp at y_g4
          clear hx
          go_wp2_with fail
          go_roundw
          case rel =>
            have X7 := ((HX_g1.out.trans HX_g2.out).trans HX_g3.out).trans HX_g4.out
            exact ⟨k + 1, by omega, by simp, v', u', L', nx', HW'.out, T6.out.ext X7, Q6.out.ext X7, A4.out, (X4.out.trans X6.out).trans X7⟩
          case measure => simp [intOf]; omega
        · by_cases h1 : d = 1
          · cases hh : has b L
            · subst h1
              have e3 : dropL b L = L' := HL.out
              have e4 : nx = nx' := HN.out
              have e0 : 0 = E := HE.out
              have e1 : (if has b L then (1 : Int) else 0) = R := HR.out
              have HC := qDrop Q3.out HW.out.len b
              rw [hh] at HC e1
              rw [e3] at HC
              simp only [Bool.false_eq_true, if_false, if_true] at e1
              have HC := Lib.hid HC
              have HN4 := Lib.hid e4
              subst e0 e1
              clear e3 e4 h0 hh
              go_wp2_with fail
              refine HC.out.mono ?_
              rintro e w4 ⟨u', rfl, hQ, hG⟩
              have Q4 := Lib.hid (HN4.out ▸ hQ)
              have T4 := Lib.hid (T3.out.other A3.out.symm hG)
              have A4 := Lib.hid (A3.out.symm.chg T3.out hG).symm
              have X4 := Lib.hid (Q3.out.up hG X3.out HB.out)
              clear hQ hG Q3 T3 A3 X3 d0 d1 d2 f0 z3
              have HG1 := Lib.hid (tGet T4.out HW'.out h)
              have HG2 := Lib.hid fun (w5 : World) (x : Ext w4 w5) => qGet (Q4.out.ext x) HW'.out.len h
              obtain ⟨V, hV⟩ : ∃ V, val h L' = V := ⟨_, rfl⟩
              obtain ⟨F, hF⟩ : ∃ V, has h L' = V := ⟨_, rfl⟩
              rw [hV, hF] at HG1 HG2
              clear hV hF
              go_wp2_with fail
              refine HG1.out.mono ?_
              rintro e w5 ⟨rfl, hx⟩
              have X5 := Lib.hid hx; clear hx
              go_wp2_with fail
              refine (HG2.out _ X5.out).mono ?_
              rintro e w6 ⟨rfl, hx⟩
              have X6 := Lib.hid (X5.out.trans hx); clear hx
              have T6 := Lib.hid (T4.out.ext X6.out)
              have Q6 := Lib.hid (Q4.out.ext X6.out)
              obtain ⟨q0, q1, qf0, qf1⟩ := Q6.out.cells.two
              have zq := Q6.out.lt
              clear HG1 HG2 X5
              try dsimp only
              repeat (first | with_reducible refine wp_region_ext ?_ [(0, 0), (1, 0), (2, 0), (3, 0), (4, 0), (5, 0), (6, 0), (7, 0), (8, 0), (9, 0), (10, 0), (11, 0), (12, 0), (13, 0), (14, 0), (15, 0), (16, 0), (17, 0), (18, 0), (19, 0), (20, 1), (21, 0), (22, 0), (23, 0), (24, 1), (25, 0), (26, 0), (27, 0), (28, 0), (30, 0), (29, 2), (31, 2), (32, 2), (33, 0), (34, 0)] (fun _ => true) ?_ ?_ ?_ ?_ ?_ | go_step)
              · kernel_rfl
              · kernel_rfl
              · kernel_rfl
              · kernel_rfl
              · exact (fun _ _ d _ _ h => by cases d <;> exact h)
              refine run_pure (o := ?_) (v := ?_) (a' := ?_) ?_ ?_ ?_ ?_ ?_
              rotate_left 3
              · (simp only [List.getElem?_toArray, List.getElem?_cons_succ, List.getElem?_cons_zero] <;> rfl)
              · rfl
              · intro w'
                go_simp
                with_reducible rfl
              · simp only [Act.put, List.setIfInBounds_toArray, List.set_cons_zero, List.set_cons_succ]
                rfl
              refine run_pure (o := ?_) (v := ?_) (a' := ?_) ?_ ?_ ?_ ?_ ?_
              rotate_left 3
              · (simp only [List.getElem?_toArray, List.getElem?_cons_succ, List.getElem?_cons_zero] <;> rfl)
              · rfl
              · intro w'
                go_simp
                with_reducible rfl
              · simp only [Act.put, List.setIfInBounds_toArray, List.set_cons_zero, List.set_cons_succ]
                rfl
              refine run_pure (o := ?_) (v := ?_) (a' := ?_) ?_ ?_ ?_ ?_ ?_
              rotate_left 3
              · (simp only [List.getElem?_toArray, List.getElem?_cons_succ, List.getElem?_cons_zero] <;> rfl)
              · rfl
              · intro w'
                go_simp
                with_reducible rfl
              · simp only [Act.put, List.setIfInBounds_toArray, List.set_cons_zero, List.set_cons_succ]
                rfl
              refine run_pure (o := ?_) (v := ?_) (a' := ?_) ?_ ?_ ?_ ?_ ?_
              rotate_left 3
              · (simp only [List.getElem?_toArray, List.getElem?_cons_succ, List.getElem?_cons_zero] <;> rfl)
              · rfl
              · intro w'
                go_simp
                with_reducible rfl
              · simp only [Act.put, List.setIfInBounds_toArray, List.set_cons_zero, List.set_cons_succ]
                rfl
              refine run_pure (o := ?_) (v := ?_) (a' := ?_) ?_ ?_ ?_ ?_ ?_
              rotate_left 3
              · (simp only [List.getElem?_toArray, List.getElem?_cons_succ, List.getElem?_cons_zero] <;> rfl)
              · rfl
              · intro w'
                go_simp
                with_reducible rfl
              · simp only [Act.put, List.setIfInBounds_toArray, List.set_cons_zero, List.set_cons_succ]
                rfl
              refine run_pure (o := ?_) (v := ?_) (a' := ?_) ?_ ?_ ?_ ?_ ?_
              rotate_left 3
              · (simp only [List.getElem?_toArray, List.getElem?_cons_succ, List.getElem?_cons_zero] <;> rfl)
              · rfl
              · intro w'
                go_simp
                with_reducible rfl
              · simp only [Act.put, List.setIfInBounds_toArray, List.set_cons_zero, List.set_cons_succ]
                rfl
              refine run_pure (o := ?_) (v := ?_) (a' := ?_) ?_ ?_ ?_ ?_ ?_
              rotate_left 3
              · (simp only [List.getElem?_toArray, List.getElem?_cons_succ, List.getElem?_cons_zero] <;> rfl)
              · rfl
              · intro w'
                go_simp
                with_reducible rfl
              · simp only [Act.put, List.setIfInBounds_toArray, List.set_cons_zero, List.set_cons_succ]
                rfl
              refine run_pure (o := ?_) (v := ?_) (a' := ?_) ?_ ?_ ?_ ?_ ?_
              rotate_left 3
              · (simp only [List.getElem?_toArray, List.getElem?_cons_succ, List.getElem?_cons_zero] <;> rfl)
              · rfl
              · intro w'
                go_simp
                with_reducible rfl
              · simp only [Act.put, List.setIfInBounds_toArray, List.set_cons_zero, List.set_cons_succ]
                rfl
              refine run_pure (o := ?_) (v := ?_) (a' := ?_) ?_ ?_ ?_ ?_ ?_
              rotate_left 3
              · (simp only [List.getElem?_toArray, List.getElem?_cons_succ, List.getElem?_cons_zero] <;> rfl)
              · rfl
              · intro w'
                go_simp
                with_reducible rfl
              · simp only [Act.put, List.setIfInBounds_toArray, List.set_cons_zero, List.set_cons_succ]
                rfl
              refine run_pure (o := ?_) (v := ?_) (a' := ?_) ?_ ?_ ?_ ?_ ?_
              rotate_left 3
              · (simp only [List.getElem?_toArray, List.getElem?_cons_succ, List.getElem?_cons_zero] <;> rfl)
              · rfl
              · intro w'
                go_simp
                with_reducible rfl
              · simp only [Act.put, List.setIfInBounds_toArray, List.set_cons_zero, List.set_cons_succ]
                rfl
              refine run_pure (o := ?_) (v := ?_) (a' := ?_) ?_ ?_ ?_ ?_ ?_
              rotate_left 3
              · (simp only [List.getElem?_toArray, List.getElem?_cons_succ, List.getElem?_cons_zero] <;> rfl)
              · rfl
              · intro w'
                go_simp
                with_reducible rfl
              · simp only [Act.put, List.setIfInBounds_toArray, List.set_cons_zero, List.set_cons_succ]
                rfl
              refine run_pure (o := ?_) (v := ?_) (a' := ?_) ?_ ?_ ?_ ?_ ?_
              rotate_left 3
              · (simp only [List.getElem?_toArray, List.getElem?_cons_succ, List.getElem?_cons_zero] <;> rfl)
              · rfl
              · intro w'
                go_simp
                with_reducible rfl
              · simp only [Act.put, List.setIfInBounds_toArray, List.set_cons_zero, List.set_cons_succ]
                rfl
              refine run_pure (o := ?_) (v := ?_) (a' := ?_) ?_ ?_ ?_ ?_ ?_
              rotate_left 3
              · (simp only [List.getElem?_toArray, List.getElem?_cons_succ, List.getElem?_cons_zero] <;> rfl)
              · rfl
              · intro w'
                go_simp
                with_reducible rfl
              · simp only [Act.put, List.setIfInBounds_toArray, List.set_cons_zero, List.set_cons_succ]
                rfl
              refine run_pure (o := ?_) (v := ?_) (a' := ?_) ?_ ?_ ?_ ?_ ?_
              rotate_left 3
              · (simp only [List.getElem?_toArray, List.getElem?_cons_succ, List.getElem?_cons_zero] <;> rfl)
              · rfl
              · intro w'
                go_simp
                with_reducible rfl
              · simp only [Act.put, List.setIfInBounds_toArray, List.set_cons_zero, List.set_cons_succ]
                rfl
              refine run_pure (o := ?_) (v := ?_) (a' := ?_) ?_ ?_ ?_ ?_ ?_
              rotate_left 3
              · (simp only [List.getElem?_toArray, List.getElem?_cons_succ, List.getElem?_cons_zero] <;> rfl)
              · rfl
              · intro w'
                go_simp
                with_reducible rfl
              · simp only [Act.put, List.setIfInBounds_toArray, List.set_cons_zero, List.set_cons_succ]
                rfl
              refine run_pure (o := ?_) (v := ?_) (a' := ?_) ?_ ?_ ?_ ?_ ?_
              rotate_left 3
              · (simp only [List.getElem?_toArray, List.getElem?_cons_succ, List.getElem?_cons_zero] <;> rfl)
              · rfl
              · intro w'
                go_simp
                with_reducible rfl
              · simp only [Act.put, List.setIfInBounds_toArray, List.set_cons_zero, List.set_cons_succ]
                rfl
              refine run_pure (o := ?_) (v := ?_) (a' := ?_) ?_ ?_ ?_ ?_ ?_
              rotate_left 3
              · (simp only [List.getElem?_toArray, List.getElem?_cons_succ, List.getElem?_cons_zero] <;> rfl)
              · rfl
              · intro w'
                go_simp
                with_reducible rfl
              · simp only [Act.put, List.setIfInBounds_toArray, List.set_cons_zero, List.set_cons_succ]
                rfl
              refine run_pure (o := ?_) (v := ?_) (a' := ?_) ?_ ?_ ?_ ?_ ?_
              rotate_left 3
              · (simp only [List.getElem?_toArray, List.getElem?_cons_succ, List.getElem?_cons_zero] <;> rfl)
              · rfl
              · intro w'
                go_simp
                with_reducible rfl
              · simp only [Act.put, List.setIfInBounds_toArray, List.set_cons_zero, List.set_cons_succ]
                rfl
              refine run_pure (o := ?_) (v := ?_) (a' := ?_) ?_ ?_ ?_ ?_ ?_
              rotate_left 3
              · (simp only [List.getElem?_toArray, List.getElem?_cons_succ, List.getElem?_cons_zero] <;> rfl)
              · rfl
              · intro w'
                go_simp
                with_reducible rfl
              · simp only [Act.put, List.setIfInBounds_toArray, List.set_cons_zero, List.set_cons_succ]
                rfl
              refine run_pure (o := ?_) (v := ?_) (a' := ?_) ?_ ?_ ?_ ?_ ?_
              rotate_left 3
              · (simp only [List.getElem?_toArray, List.getElem?_cons_succ, List.getElem?_cons_zero] <;> rfl)
              · rfl
              · intro w'
                go_simp
                with_reducible rfl
              · simp only [Act.put, List.setIfInBounds_toArray, List.set_cons_zero, List.set_cons_succ]
                rfl
              refine run_call (f := 22) (args := ?_) (o := ?_) (v := ?_) (a' := ?_) ?_ ?_ ?_ ?_ ?_ (Ext.refl _) ?_
              rotate_left 4
              · (simp only [List.getElem?_toArray, List.getElem?_cons_succ, List.getElem?_cons_zero] <;> rfl)
              · rfl
              · intro w'
                go_simp
                with_reducible rfl
              · intro w' hw'
                exact (tNext (T6.out.ext hw'))
              · simp only [Act.put, List.setIfInBounds_toArray, List.set_cons_zero, List.set_cons_succ]
                rfl
              refine run_pure (o := ?_) (v := ?_) (a' := ?_) ?_ ?_ ?_ ?_ ?_
              rotate_left 3
              · (simp only [List.getElem?_toArray, List.getElem?_cons_succ, List.getElem?_cons_zero] <;> rfl)
              · rfl
              · intro w'
                go_simp
                with_reducible rfl
              · simp only [Act.put, List.setIfInBounds_toArray, List.set_cons_zero, List.set_cons_succ]
                rfl
              refine run_pure (o := ?_) (v := ?_) (a' := ?_) ?_ ?_ ?_ ?_ ?_
              rotate_left 3
              · (simp only [List.getElem?_toArray, List.getElem?_cons_succ, List.getElem?_cons_zero] <;> rfl)
              · rfl
              · intro w'
                go_simp
                with_reducible rfl
              · simp only [Act.put, List.setIfInBounds_toArray, List.set_cons_zero, List.set_cons_succ]
                rfl
              refine run_pure (o := ?_) (v := ?_) (a' := ?_) ?_ ?_ ?_ ?_ ?_
              rotate_left 3
              · (simp only [List.getElem?_toArray, List.getElem?_cons_succ, List.getElem?_cons_zero] <;> rfl)
              · rfl
              · intro w'
                go_simp
                with_reducible rfl
              · simp only [Act.put, List.setIfInBounds_toArray, List.set_cons_zero, List.set_cons_succ]
                rfl
              refine run_read (o := ?_) (v := ?_) (a' := ?_) ?_ ?_ ?_ ?_ (Ext.refl _) ?_
              rotate_left 3
              · (simp only [List.getElem?_toArray, List.getElem?_cons_succ, List.getElem?_cons_zero] <;> rfl)
              · rfl
              · intro w' hw'
                obtain ⟨hc, hf⟩ := ext_cell hw'
                clear hw'
                go_simp
                with_reducible rfl
              · simp only [Act.put, List.setIfInBounds_toArray, List.set_cons_zero, List.set_cons_succ]
                rfl
              refine run_pure (o := ?_) (v := ?_) (a' := ?_) ?_ ?_ ?_ ?_ ?_
              rotate_left 3
              · (simp only [List.getElem?_toArray, List.getElem?_cons_succ, List.getElem?_cons_zero] <;> rfl)
              · rfl
              · intro w'
                go_simp
                with_reducible rfl
              · simp only [Act.put, List.setIfInBounds_toArray, List.set_cons_zero, List.set_cons_succ]
                rfl
              refine run_pure (o := ?_) (v := ?_) (a' := ?_) ?_ ?_ ?_ ?_ ?_
              rotate_left 3
              · (simp only [List.getElem?_toArray, List.getElem?_cons_succ, List.getElem?_cons_zero] <;> rfl)
              · rfl
              · intro w'
                go_simp
                with_reducible rfl
              · simp only [Act.put, List.setIfInBounds_toArray, List.set_cons_zero, List.set_cons_succ]
                rfl
              refine run_pure (o := ?_) (v := ?_) (a' := ?_) ?_ ?_ ?_ ?_ ?_
              rotate_left 3
              · (simp only [List.getElem?_toArray, List.getElem?_cons_succ, List.getElem?_cons_zero] <;> rfl)
              · rfl
              · intro w'
                go_simp
                with_reducible rfl
              · simp only [Act.put, List.setIfInBounds_toArray, List.set_cons_zero, List.set_cons_succ]
                rfl
              refine run_pure (o := ?_) (v := ?_) (a' := ?_) ?_ ?_ ?_ ?_ ?_
              rotate_left 3
              · (simp only [List.getElem?_toArray, List.getElem?_cons_succ, List.getElem?_cons_zero] <;> rfl)
              · rfl
              · intro w'
                go_simp
                with_reducible rfl
              · simp only [Act.put, List.setIfInBounds_toArray, List.set_cons_zero, List.set_cons_succ]
                rfl
              refine run_pure (o := ?_) (v := ?_) (a' := ?_) ?_ ?_ ?_ ?_ ?_
              rotate_left 3
              · (simp only [List.getElem?_toArray, List.getElem?_cons_succ, List.getElem?_cons_zero] <;> rfl)
              · rfl
              · intro w'
                go_simp
                with_reducible rfl
              · simp only [Act.put, List.setIfInBounds_toArray, List.set_cons_zero, List.set_cons_succ]
                rfl
              refine run_callG (f := 24) (args := ?_) (o := ?_) (Φ := fun w2 v w' => OwnI w' w2.heap.size v (hnd L')) ?_ ?_ ?_ ?_ ?_ (fun g1a y1 g1 hx0 hy1 hx => ?_)
              rotate_left 2
              · (simp only [List.getElem?_toArray, List.getElem?_cons_succ, List.getElem?_cons_zero] <;> rfl)
              · rfl
              · intro w'
                go_simp
                with_reducible rfl
              · intro w2 hx2
                obtain ⟨hc, hf⟩ := ext_cell hx2
                exact tHandles (T6.out.ext hx2) HW'.out.len
              · exact fun _ _ h k => h.trans k
              have hz_g1 := hx0.size
              have hy_g1 := hx.size
              try simp at hz_g1
              try simp at hy_g1
              have hx := hx0.trans hx
              clear hx0
              have hc_g1 := (ext_cell hx).1
              have hf_g1 := (ext_cell hx).2
              have HX_g1 := Lib.hid hx
              have y_g1 := hx.size
              try simp at y_g1
              clear hx
              try simp only [Act.put, List.setIfInBounds_toArray, List.set_cons_zero, List.set_cons_succ]
              refine run_callG (f := 25) (args := ?_) (o := ?_) (Φ := fun w2 v w' => OwnI w' w2.heap.size v (hnd L')) ?_ ?_ ?_ ?_ ?_ (fun g2a y2 g2 hx0 hy2 hx => ?_)
              rotate_left 2
              · (simp only [List.getElem?_toArray, List.getElem?_cons_succ, List.getElem?_cons_zero] <;> rfl)
              · rfl
              · intro w'
                go_simp
                with_reducible rfl
              · intro w2 hx2
                obtain ⟨hc, hf⟩ := ext_cell hx2
                exact qHandles (Q6.out.ext (HX_g1.out.trans hx2)) HW'.out.len
              · exact fun _ _ h k => h.trans k
              have hz_g2 := hx0.size
              have hy_g2 := hx.size
              try simp at hz_g2
              try simp at hy_g2
              have hx := hx0.trans hx
              clear hx0
              have hc_g2 := (ext_cell hx).1
              have hf_g2 := (ext_cell hx).2
              have HX_g2 := Lib.hid hx
              have y_g2 := hx.size
              try simp at y_g2
              clear hx
              try simp only [Act.put, List.setIfInBounds_toArray, List.set_cons_zero, List.set_cons_succ]
              refine run_callG (f := 23) (args := ?_) (o := ?_) (Φ := fun w2 v w' => v = .bool true) ?_ ?_ ?_ ?_ ?_ (fun g3a y3 g3 hx0 hy3 hx => ?_)
              rotate_left 2
              · (simp only [List.getElem?_toArray, List.getElem?_cons_succ, List.getElem?_cons_zero] <;> rfl)
              · rfl
              · intro w'
                go_simp
                with_reducible rfl
              · intro w2 hx2
                obtain ⟨hc, hf⟩ := ext_cell hx2
                exact rIntsG _ _ (hnd L') (by rw [hnd_length]; have := HW'.out.len; omega) w2 (hy1.reads.ext (HX_g2.out.trans hx2)) (hy2.reads.ext hx2)
              · exact fun _ _ h k => h.trans k
              have hz_g3 := hx0.size
              have hy_g3 := hx.size
              try simp at hz_g3
              try simp at hy_g3
              have hx := hx0.trans hx
              clear hx0
              have hc_g3 := (ext_cell hx).1
              have hf_g3 := (ext_cell hx).2
              have HX_g3 := Lib.hid hx
              have y_g3 := hx.size
              try simp at y_g3
              clear hx
              subst hy3
              try simp only [Act.put, List.setIfInBounds_toArray, List.set_cons_zero, List.set_cons_succ]
              refine run_pure (o := ?_) (v := ?_) (a' := ?_) ?_ ?_ ?_ ?_ ?_
              rotate_left 3
              · (simp only [List.getElem?_toArray, List.getElem?_cons_succ, List.getElem?_cons_zero] <;> rfl)
              · rfl
              · intro w'
                go_simp
                with_reducible rfl
              · simp only [Act.put, List.setIfInBounds_toArray, List.set_cons_zero, List.set_cons_succ]
                rfl
              refine run_pure (o := ?_) (v := ?_) (a' := ?_) ?_ ?_ ?_ ?_ ?_
              rotate_left 3
              · (simp only [List.getElem?_toArray, List.getElem?_cons_succ, List.getElem?_cons_zero] <;> rfl)
              · rfl
              · intro w'
                go_simp
                with_reducible rfl
              · simp only [Act.put, List.setIfInBounds_toArray, List.set_cons_zero, List.set_cons_succ]
                rfl
              refine run_nil (fun g4 hx => ?_)
              have hc_g4 := (ext_cell hx).1
              have hf_g4 := (ext_cell hx).2
              have HX_g4 := Lib.hid hx
              have y_g4 := hx.size
              try simp at y_g4
              clear hx
              go_wp2_with fail
              go_roundw
              case rel =>
                have X7 := ((HX_g1.out.trans HX_g2.out).trans HX_g3.out).trans HX_g4.out
                exact ⟨k + 1, by omega, by simp, v', u', L', nx', HW'.out, T6.out.ext X7, Q6.out.ext X7, A4.out, (X4.out.trans X6.out).trans X7⟩
              case measure => simp [intOf]; omega
            · subst h1
              have e3 : dropL b L = L' := HL.out
              have e4 : nx = nx' := HN.out
              have e0 : 0 = E := HE.out
              have e1 : (if has b L then (1 : Int) else 0) = R := HR.out
              have HC := qDrop Q3.out HW.out.len b
              rw [hh] at HC e1
              rw [e3] at HC
              simp only [Bool.false_eq_true, if_false, if_true] at e1
              have HC := Lib.hid HC
              have HN4 := Lib.hid e4
              subst e0 e1
              clear e3 e4 h0 hh
              go_wp2_with fail
              refine HC.out.mono ?_
              rintro e w4 ⟨u', rfl, hQ, hG⟩
              have Q4 := Lib.hid (HN4.out ▸ hQ)
              have T4 := Lib.hid (T3.out.other A3.out.symm hG)
              have A4 := Lib.hid (A3.out.symm.chg T3.out hG).symm
              have X4 := Lib.hid (Q3.out.up hG X3.out HB.out)
              clear hQ hG Q3 T3 A3 X3 d0 d1 d2 f0 z3
              have HG1 := Lib.hid (tGet T4.out HW'.out h)
              have HG2 := Lib.hid fun (w5 : World) (x : Ext w4 w5) => qGet (Q4.out.ext x) HW'.out.len h
              obtain ⟨V, hV⟩ : ∃ V, val h L' = V := ⟨_, rfl⟩
              obtain ⟨F, hF⟩ : ∃ V, has h L' = V := ⟨_, rfl⟩
              rw [hV, hF] at HG1 HG2
              clear hV hF
              go_wp2_with fail
              refine HG1.out.mono ?_
              rintro e w5 ⟨rfl, hx⟩
              have X5 := Lib.hid hx; clear hx
              go_wp2_with fail
              refine (HG2.out _ X5.out).mono ?_
              rintro e w6 ⟨rfl, hx⟩
              have X6 := Lib.hid (X5.out.trans hx); clear hx
              have T6 := Lib.hid (T4.out.ext X6.out)
              have Q6 := Lib.hid (Q4.out.ext X6.out)
              obtain ⟨q0, q1, qf0, qf1⟩ := Q6.out.cells.two
              have zq := Q6.out.lt
              clear HG1 HG2 X5
              try dsimp only
              repeat (first | with_reducible refine wp_region_ext ?_ [(0, 0), (1, 0), (2, 0), (3, 0), (4, 0), (5, 0), (6, 0), (7, 0), (8, 0), (9, 0), (10, 0), (11, 0), (12, 0), (13, 0), (14, 0), (15, 0), (16, 0), (17, 0), (18, 0), (19, 0), (20, 1), (21, 0), (22, 0), (23, 0), (24, 1), (25, 0), (26, 0), (27, 0), (28, 0), (30, 0), (29, 2), (31, 2), (32, 2), (33, 0), (34, 0)] (fun _ => true) ?_ ?_ ?_ ?_ ?_ | go_step)
              · kernel_rfl
              · kernel_rfl
              · kernel_rfl
              · kernel_rfl
              · exact (fun _ _ d _ _ h => by cases d <;> exact h)
              refine run_pure (o := ?_) (v := ?_) (a' := ?_) ?_ ?_ ?_ ?_ ?_
              rotate_left 3
              · (simp only [List.getElem?_toArray, List.getElem?_cons_succ, List.getElem?_cons_zero] <;> rfl)
              · rfl
              · intro w'
                go_simp
                with_reducible rfl
              · simp only [Act.put, List.setIfInBounds_toArray, List.set_cons_zero, List.set_cons_succ]
                rfl
              refine run_pure (o := ?_) (v := ?_) (a' := ?_) ?_ ?_ ?_ ?_ ?_
              rotate_left 3
              · (simp only [List.getElem?_toArray, List.getElem?_cons_succ, List.getElem?_cons_zero] <;> rfl)
              · rfl
              · intro w'
                go_simp
                with_reducible rfl
              · simp only [Act.put, List.setIfInBounds_toArray, List.set_cons_zero, List.set_cons_succ]
                rfl
              refine run_pure (o := ?_) (v := ?_) (a' := ?_) ?_ ?_ ?_ ?_ ?_
              rotate_left 3
              · (simp only [List.getElem?_toArray, List.getElem?_cons_succ, List.getElem?_cons_zero] <;> rfl)
              · rfl
              · intro w'
                go_simp
                with_reducible rfl
              · simp only [Act.put, List.setIfInBounds_toArray, List.set_cons_zero, List.set_cons_succ]
                rfl
              refine run_pure (o := ?_) (v := ?_) (a' := ?_) ?_ ?_ ?_ ?_ ?_
              rotate_left 3
              · (simp only [List.getElem?_toArray, List.getElem?_cons_succ, List.getElem?_cons_zero] <;> rfl)
              · rfl
              · intro w'
                go_simp
                with_reducible rfl
              · simp only [Act.put, List.setIfInBounds_toArray, List.set_cons_zero, List.set_cons_succ]
                rfl
              refine run_pure (o := ?_) (v := ?_) (a' := ?_) ?_ ?_ ?_ ?_ ?_
              rotate_left 3
              · (simp only [List.getElem?_toArray, List.getElem?_cons_succ, List.getElem?_cons_zero] <;> rfl)
              · rfl
              · intro w'
                go_simp
                with_reducible rfl
              · simp only [Act.put, List.setIfInBounds_toArray, List.set_cons_zero, List.set_cons_succ]
                rfl
              refine run_pure (o := ?_) (v := ?_) (a' := ?_) ?_ ?_ ?_ ?_ ?_
              rotate_left 3
              · (simp only [List.getElem?_toArray, List.getElem?_cons_succ, List.getElem?_cons_zero] <;> rfl)
              · rfl
              · intro w'
                go_simp
                with_reducible rfl
              · simp only [Act.put, List.setIfInBounds_toArray, List.set_cons_zero, List.set_cons_succ]
                rfl
              refine run_pure (o := ?_) (v := ?_) (a' := ?_) ?_ ?_ ?_ ?_ ?_
              rotate_left 3
              · (simp only [List.getElem?_toArray, List.getElem?_cons_succ, List.getElem?_cons_zero] <;> rfl)
              · rfl
              · intro w'
                go_simp
                with_reducible rfl
              · simp only [Act.put, List.setIfInBounds_toArray, List.set_cons_zero, List.set_cons_succ]
                rfl
              refine run_pure (o := ?_) (v := ?_) (a' := ?_) ?_ ?_ ?_ ?_ ?_
              rotate_left 3
              · (simp only [List.getElem?_toArray, List.getElem?_cons_succ, List.getElem?_cons_zero] <;> rfl)
              · rfl
              · intro w'
                go_simp
                with_reducible rfl
              · simp only [Act.put, List.setIfInBounds_toArray, List.set_cons_zero, List.set_cons_succ]
                rfl
              refine run_pure (o := ?_) (v := ?_) (a' := ?_) ?_ ?_ ?_ ?_ ?_
              rotate_left 3
              · (simp only [List.getElem?_toArray, List.getElem?_cons_succ, List.getElem?_cons_zero] <;> rfl)
              · rfl
              · intro w'
                go_simp
                with_reducible rfl
              · simp only [Act.put, List.setIfInBounds_toArray, List.set_cons_zero, List.set_cons_succ]
                rfl
              refine run_pure (o := ?_) (v := ?_) (a' := ?_) ?_ ?_ ?_ ?_ ?_
              rotate_left 3
              · (simp only [List.getElem?_toArray, List.getElem?_cons_succ, List.getElem?_cons_zero] <;> rfl)
              · rfl
              · intro w'
                go_simp
                with_reducible rfl
              · simp only [Act.put, List.setIfInBounds_toArray, List.set_cons_zero, List.set_cons_succ]
                rfl
              refine run_pure (o := ?_) (v := ?_) (a' := ?_) ?_ ?_ ?_ ?_ ?_
              rotate_left 3
              · (simp only [List.getElem?_toArray, List.getElem?_cons_succ, List.getElem?_cons_zero] <;> rfl)
              · rfl
              · intro w'
                go_simp
                with_reducible rfl
              · simp only [Act.put, List.setIfInBounds_toArray, List.set_cons_zero, List.set_cons_succ]
                rfl
              refine run_pure (o := ?_) (v := ?_) (a' := ?_) ?_ ?_ ?_ ?_ ?_
              rotate_left 3
              · (simp only [List.getElem?_toArray, List.getElem?_cons_succ, List.getElem?_cons_zero] <;> rfl)
              · rfl
              · intro w'
                go_simp
                with_reducible rfl
              · simp only [Act.put, List.setIfInBounds_toArray, List.set_cons_zero, List.set_cons_succ]
                rfl
              refine run_pure (o := ?_) (v := ?_) (a' := ?_) ?_ ?_ ?_ ?_ ?_
              rotate_left 3
              · (simp only [List.getElem?_toArray, List.getElem?_cons_succ, List.getElem?_cons_zero] <;> rfl)
              · rfl
              · intro w'
                go_simp
                with_reducible rfl
              · simp only [Act.put, List.setIfInBounds_toArray, List.set_cons_zero, List.set_cons_succ]
                rfl
              refine run_pure (o := ?_) (v := ?_) (a' := ?_) ?_ ?_ ?_ ?_ ?_
              rotate_left 3
              · (simp only [List.getElem?_toArray, List.getElem?_cons_succ, List.getElem?_cons_zero] <;> rfl)
              · rfl
              · intro w'
                go_simp
                with_reducible rfl
              · simp only [Act.put, List.setIfInBounds_toArray, List.set_cons_zero, List.set_cons_succ]
                rfl
              refine run_pure (o := ?_) (v := ?_) (a' := ?_) ?_ ?_ ?_ ?_ ?_
              rotate_left 3
              · (simp only [List.getElem?_toArray, List.getElem?_cons_succ, List.getElem?_cons_zero] <;> rfl)
              · rfl
              · intro w'
                go_simp
                with_reducible rfl
              · simp only [Act.put, List.setIfInBounds_toArray, List.set_cons_zero, List.set_cons_succ]
                rfl
              refine run_pure (o := ?_) (v := ?_) (a' := ?_) ?_ ?_ ?_ ?_ ?_
              rotate_left 3
              · (simp only [List.getElem?_toArray, List.getElem?_cons_succ, List.getElem?_cons_zero] <;> rfl)
              · rfl
              · intro w'
                go_simp
                with_reducible rfl
              · simp only [Act.put, List.setIfInBounds_toArray, List.set_cons_zero, List.set_cons_succ]
                rfl
              refine run_pure (o := ?_) (v := ?_) (a' := ?_) ?_ ?_ ?_ ?_ ?_
              rotate_left 3
              · (simp only [List.getElem?_toArray, List.getElem?_cons_succ, List.getElem?_cons_zero] <;> rfl)
              · rfl
              · intro w'
                go_simp
                with_reducible rfl
              · simp only [Act.put, List.setIfInBounds_toArray, List.set_cons_zero, List.set_cons_succ]
                rfl
              refine run_pure (o := ?_) (v := ?_) (a' := ?_) ?_ ?_ ?_ ?_ ?_
              rotate_left 3
              · (simp only [List.getElem?_toArray, List.getElem?_cons_succ, List.getElem?_cons_zero] <;> rfl)
              · rfl
              · intro w'
                go_simp
                with_reducible rfl
              · simp only [Act.put, List.setIfInBounds_toArray, List.set_cons_zero, List.set_cons_succ]
                rfl
              refine run_pure (o := ?_) (v := ?_) (a' := ?_) ?_ ?_ ?_ ?_ ?_
              rotate_left 3
              · (simp only [List.getElem?_toArray, List.getElem?_cons_succ, List.getElem?_cons_zero] <;> rfl)
              · rfl
              · intro w'
                go_simp
                with_reducible rfl
              · simp only [Act.put, List.setIfInBounds_toArray, List.set_cons_zero, List.set_cons_succ]
                rfl
              refine run_pure (o := ?_) (v := ?_) (a' := ?_) ?_ ?_ ?_ ?_ ?_
              rotate_left 3
              · (simp only [List.getElem?_toArray, List.getElem?_cons_succ, List.getElem?_cons_zero] <;> rfl)
              · rfl
              · intro w'
                go_simp
                with_reducible rfl
              · simp only [Act.put, List.setIfInBounds_toArray, List.set_cons_zero, List.set_cons_succ]
                rfl
              refine run_call (f := 22) (args := ?_) (o := ?_) (v := ?_) (a' := ?_) ?_ ?_ ?_ ?_ ?_ (Ext.refl _) ?_
              rotate_left 4
              · (simp only [List.getElem?_toArray, List.getElem?_cons_succ, List.getElem?_cons_zero] <;> rfl)
              · rfl
              · intro w'
                go_simp
                with_reducible rfl
              · intro w' hw'
                exact (tNext (T6.out.ext hw'))
              · simp only [Act.put, List.setIfInBounds_toArray, List.set_cons_zero, List.set_cons_succ]
                rfl
              refine run_pure (o := ?_) (v := ?_) (a' := ?_) ?_ ?_ ?_ ?_ ?_
              rotate_left 3
              · (simp only [List.getElem?_toArray, List.getElem?_cons_succ, List.getElem?_cons_zero] <;> rfl)
              · rfl
              · intro w'
                go_simp
                with_reducible rfl
              · simp only [Act.put, List.setIfInBounds_toArray, List.set_cons_zero, List.set_cons_succ]
                rfl
              refine run_pure (o := ?_) (v := ?_) (a' := ?_) ?_ ?_ ?_ ?_ ?_
              rotate_left 3
              · (simp only [List.getElem?_toArray, List.getElem?_cons_succ, List.getElem?_cons_zero] <;> rfl)
              · rfl
              · intro w'
                go_simp
                with_reducible rfl
              · simp only [Act.put, List.setIfInBounds_toArray, List.set_cons_zero, List.set_cons_succ]
                rfl
              refine run_pure (o := ?_) (v := ?_) (a' := ?_) ?_ ?_ ?_ ?_ ?_
              rotate_left 3
              · (simp only [List.getElem?_toArray, List.getElem?_cons_succ, List.getElem?_cons_zero] <;> rfl)
              · rfl
              · intro w'
                go_simp
                with_reducible rfl
              · simp only [Act.put, List.setIfInBounds_toArray, List.set_cons_zero, List.set_cons_succ]
                rfl
              refine run_read (o := ?_) (v := ?_) (a' := ?_) ?_ ?_ ?_ ?_ (Ext.refl _) ?_
              rotate_left 3
              · (simp only [List.getElem?_toArray, List.getElem?_cons_succ, List.getElem?_cons_zero] <;> rfl)
              · rfl
              · intro w' hw'
                obtain ⟨hc, hf⟩ := ext_cell hw'
                clear hw'
                go_simp
                with_reducible rfl
              · simp only [Act.put, List.setIfInBounds_toArray, List.set_cons_zero, List.set_cons_succ]
                rfl
              refine run_pure (o := ?_) (v := ?_) (a' := ?_) ?_ ?_ ?_ ?_ ?_
              rotate_left 3
              · (simp only [List.getElem?_toArray, List.getElem?_cons_succ, List.getElem?_cons_zero] <;> rfl)
              · rfl
              · intro w'
                go_simp
                with_reducible rfl
              · simp only [Act.put, List.setIfInBounds_toArray, List.set_cons_zero, List.set_cons_succ]
                rfl
              refine run_pure (o := ?_) (v := ?_) (a' := ?_) ?_ ?_ ?_ ?_ ?_
              rotate_left 3
              · (simp only [List.getElem?_toArray, List.getElem?_cons_succ, List.getElem?_cons_zero] <;> rfl)
              · rfl
              · intro w'
                go_simp
                with_reducible rfl
              · simp only [Act.put, List.setIfInBounds_toArray, List.set_cons_zero, List.set_cons_succ]
                rfl
              refine run_pure (o := ?_) (v := ?_) (a' := ?_) ?_ ?_ ?_ ?_ ?_
              rotate_left 3
              · (simp only [List.getElem?_toArray, List.getElem?_cons_succ, List.getElem?_cons_zero] <;> rfl)
              · rfl
              · intro w'
                go_simp
                with_reducible rfl
              · simp only [Act.put, List.setIfInBounds_toArray, List.set_cons_zero, List.set_cons_succ]
                rfl
              refine run_pure (o := ?_) (v := ?_) (a' := ?_) ?_ ?_ ?_ ?_ ?_
              rotate_left 3
              · (simp only [List.getElem?_toArray, List.getElem?_cons_succ, List.getElem?_cons_zero] <;> rfl)
              · rfl
              · intro w'
                go_simp
                with_reducible rfl
              · simp only [Act.put, List.setIfInBounds_toArray, List.set_cons_zero, List.set_cons_succ]
                rfl
              refine run_pure (o := ?_) (v := ?_) (a' := ?_) ?_ ?_ ?_ ?_ ?_
              rotate_left 3
              · (simp only [List.getElem?_toArray, List.getElem?_cons_succ, List.getElem?_cons_zero] <;> rfl)
              · rfl
              · intro w'
                go_simp
                with_reducible rfl
              · simp only [Act.put, List.setIfInBounds_toArray, List.set_cons_zero, List.set_cons_succ]
                rfl
              refine run_callG (f := 24) (args := ?_) (o := ?_) (Φ := fun w2 v w' => OwnI w' w2.heap.size v (hnd L')) ?_ ?_ ?_ ?_ ?_ (fun g1a y1 g1 hx0 hy1 hx => ?_)
              rotate_left 2
              · (simp only [List.getElem?_toArray, List.getElem?_cons_succ, List.getElem?_cons_zero] <;> rfl)
              · rfl
              · intro w'
                go_simp
                with_reducible rfl
              · intro w2 hx2
                obtain ⟨hc, hf⟩ := ext_cell hx2
                exact tHandles (T6.out.ext hx2) HW'.out.len
              · exact fun _ _ h k => h.trans k
              have hz_g1 := hx0.size
              have hy_g1 := hx.size
              try simp at hz_g1
              try simp at hy_g1
              have hx := hx0.trans hx
              clear hx0
              have hc_g1 := (ext_cell hx).1
              have hf_g1 := (ext_cell hx).2
              have HX_g1 := Lib.hid hx
              have y_g1 := hx.size
              try simp at y_g1
              clear hx
              try simp only [Act.put, List.setIfInBounds_toArray, List.set_cons_zero, List.set_cons_succ]
              refine run_callG (f := 25) (args := ?_) (o := ?_) (Φ := fun w2 v w' => OwnI w' w2.heap.size v (hnd L')) ?_ ?_ ?_ ?_ ?_ (fun g2a y2 g2 hx0 hy2 hx => ?_)
              rotate_left 2
              · (simp only [List.getElem?_toArray, List.getElem?_cons_succ, List.getElem?_cons_zero] <;> rfl)
              · rfl
              · intro w'
                go_simp
                with_reducible rfl
              · intro w2 hx2
                obtain ⟨hc, hf⟩ := ext_cell hx2
                exact qHandles (Q6.out.ext (HX_g1.out.trans hx2)) HW'.out.len
              · exact fun _ _ h k => h.trans k
              have hz_g2 := hx0.size
              have hy_g2 := hx.size
              try simp at hz_g2
              try simp at hy_g2
              have hx := hx0.trans hx
              clear hx0
              have hc_g2 := (ext_cell hx).1
              have hf_g2 := (ext_cell hx).2
              have HX_g2 := Lib.hid hx
              have y_g2 := hx.size
              try simp at y_g2
              clear hx
              try simp only [Act.put, List.setIfInBounds_toArray, List.set_cons_zero, List.set_cons_succ]
              refine run_callG (f := 23) (args := ?_) (o := ?_) (Φ := fun w2 v w' => v = .bool true) ?_ ?_ ?_ ?_ ?_ (fun g3a y3 g3 hx0 hy3 hx => ?_)
              rotate_left 2
              · (simp only [List.getElem?_toArray, List.getElem?_cons_succ, List.getElem?_cons_zero] <;> rfl)
              · rfl
              · intro w'
                go_simp
                with_reducible rfl
              · intro w2 hx2
                obtain ⟨hc, hf⟩ := ext_cell hx2
                exact rIntsG _ _ (hnd L') (by rw [hnd_length]; have := HW'.out.len; omega) w2 (hy1.reads.ext (HX_g2.out.trans hx2)) (hy2.reads.ext hx2)
              · exact fun _ _ h k => h.trans k
              have hz_g3 := hx0.size
              have hy_g3 := hx.size
              try simp at hz_g3
              try simp at hy_g3
              have hx := hx0.trans hx
              clear hx0
              have hc_g3 := (ext_cell hx).1
              have hf_g3 := (ext_cell hx).2
              have HX_g3 := Lib.hid hx
              have y_g3 := hx.size
              try simp at y_g3
              clear hx
              subst hy3
              try simp only [Act.put, List.setIfInBounds_toArray, List.set_cons_zero, List.set_cons_succ]
              refine run_pure (o := ?_) (v := ?_) (a' := ?_) ?_ ?_ ?_ ?_ ?_
              rotate_left 3
              · (simp only [List.getElem?_toArray, List.getElem?_cons_succ, List.getElem?_cons_zero] <;> rfl)
              · rfl
              · intro w'
                go_simp
                with_reducible rfl
              · simp only [Act.put, List.setIfInBounds_toArray, List.set_cons_zero, List.set_cons_succ]
                rfl
              refine run_pure (o := ?_) (v := ?_) (a' := ?_) ?_ ?_ ?_ ?_ ?_
              rotate_left 3
              · (simp only [List.getElem?_toArray, List.getElem?_cons_succ, List.getElem?_cons_zero] <;> rfl)
              · rfl
              · intro w'
                go_simp
                with_reducible rfl
              · simp only [Act.put, List.setIfInBounds_toArray, List.set_cons_zero, List.set_cons_succ]
                rfl
              refine run_nil (fun g4 hx => ?_)
              have hc_g4 := (ext_cell hx).1
              have hf_g4 := (ext_cell hx).2
              have HX_g4 := Lib.hid hx
              have y_g4 := hx.size
              try simp at y_g4
              clear hx
              go_wp2_with fail
              go_roundw
              case rel =>
                have X7 := ((HX_g1.out.trans HX_g2.out).trans HX_g3.out).trans HX_g4.out
                exact ⟨k + 1, by omega, by simp, v', u', L', nx', HW'.out, T6.out.ext X7, Q6.out.ext X7, A4.out, (X4.out.trans X6.out).trans X7⟩
              case measure => simp [intOf]; omega
          · by_cases h2 : d = 2
            · subst h2
              have e2 : layE L nx b = E := HE.out
              have e3 : layL L nx b x = L' := HL.out
              have e4 : layN L nx b = nx' := HN.out
              have e1 : 0 = R := HR.out
              have HC := qLay Q3.out HW.out b x
              rw [e2, e3, e4] at HC
              have HC := Lib.hid HC
              subst e1
              clear e2 e3 e4 h0 h1
              go_wp2_with fail
              refine HC.out.mono ?_
              rintro e w4 ⟨u', rfl, hQ, hG⟩
              have Q4 := Lib.hid hQ
              have T4 := Lib.hid (T3.out.other A3.out.symm hG)
              have A4 := Lib.hid (A3.out.symm.chg T3.out hG).symm
              have X4 := Lib.hid (Q3.out.up hG X3.out HB.out)
              clear hQ hG Q3 T3 A3 X3 d0 d1 d2 f0 z3
              have HG1 := Lib.hid (tGet T4.out HW'.out h)
              have HG2 := Lib.hid fun (w5 : World) (x : Ext w4 w5) => qGet (Q4.out.ext x) HW'.out.len h
              obtain ⟨V, hV⟩ : ∃ V, val h L' = V := ⟨_, rfl⟩
              obtain ⟨F, hF⟩ : ∃ V, has h L' = V := ⟨_, rfl⟩
              rw [hV, hF] at HG1 HG2
              clear hV hF
              go_wp2_with fail
              refine HG1.out.mono ?_
              rintro e w5 ⟨rfl, hx⟩
              have X5 := Lib.hid hx; clear hx
              go_wp2_with fail
              refine (HG2.out _ X5.out).mono ?_
              rintro e w6 ⟨rfl, hx⟩
              have X6 := Lib.hid (X5.out.trans hx); clear hx
              have T6 := Lib.hid (T4.out.ext X6.out)
              have Q6 := Lib.hid (Q4.out.ext X6.out)
              obtain ⟨q0, q1, qf0, qf1⟩ := Q6.out.cells.two
              have zq := Q6.out.lt
              clear HG1 HG2 X5
              try dsimp only
              repeat (first | with_reducible refine wp_region_ext ?_ [(0, 0), (1, 0), (2, 0), (3, 0), (4, 0), (5, 0), (6, 0), (7, 0), (8, 0), (9, 0), (10, 0), (11, 0), (12, 0), (13, 0), (14, 0), (15, 0), (16, 0), (17, 0), (18, 0), (19, 0), (20, 1), (21, 0), (22, 0), (23, 0), (24, 1), (25, 0), (26, 0), (27, 0), (28, 0), (30, 0), (29, 2), (31, 2), (32, 2), (33, 0), (34, 0)] (fun _ => true) ?_ ?_ ?_ ?_ ?_ | go_step)
              · kernel_rfl
              · kernel_rfl
              · kernel_rfl
              · kernel_rfl
              · exact (fun _ _ d _ _ h => by cases d <;> exact h)
              refine run_pure (o := ?_) (v := ?_) (a' := ?_) ?_ ?_ ?_ ?_ ?_
              rotate_left 3
              · (simp only [List.getElem?_toArray, List.getElem?_cons_succ, List.getElem?_cons_zero] <;> rfl)
              · rfl
              · intro w'
                go_simp
                with_reducible rfl
              · simp only [Act.put, List.setIfInBounds_toArray, List.set_cons_zero, List.set_cons_succ]
                rfl
              refine run_pure (o := ?_) (v := ?_) (a' := ?_) ?_ ?_ ?_ ?_ ?_
              rotate_left 3
              · (simp only [List.getElem?_toArray, List.getElem?_cons_succ, List.getElem?_cons_zero] <;> rfl)
              · rfl
              · intro w'
                go_simp
                with_reducible rfl
              · simp only [Act.put, List.setIfInBounds_toArray, List.set_cons_zero, List.set_cons_succ]
                rfl
              refine run_pure (o := ?_) (v := ?_) (a' := ?_) ?_ ?_ ?_ ?_ ?_
              rotate_left 3
              · (simp only [List.getElem?_toArray, List.getElem?_cons_succ, List.getElem?_cons_zero] <;> rfl)
              · rfl
              · intro w'
                go_simp
                with_reducible rfl
              · simp only [Act.put, List.setIfInBounds_toArray, List.set_cons_zero, List.set_cons_succ]
                rfl
              refine run_pure (o := ?_) (v := ?_) (a' := ?_) ?_ ?_ ?_ ?_ ?_
              rotate_left 3
              · (simp only [List.getElem?_toArray, List.getElem?_cons_succ, List.getElem?_cons_zero] <;> rfl)
              · rfl
              · intro w'
                go_simp
                with_reducible rfl
              · simp only [Act.put, List.setIfInBounds_toArray, List.set_cons_zero, List.set_cons_succ]
                rfl
              refine run_pure (o := ?_) (v := ?_) (a' := ?_) ?_ ?_ ?_ ?_ ?_
              rotate_left 3
              · (simp only [List.getElem?_toArray, List.getElem?_cons_succ, List.getElem?_cons_zero] <;> rfl)
              · rfl
              · intro w'
                go_simp
                with_reducible rfl
              · simp only [Act.put, List.setIfInBounds_toArray, List.set_cons_zero, List.set_cons_succ]
                rfl
              refine run_pure (o := ?_) (v := ?_) (a' := ?_) ?_ ?_ ?_ ?_ ?_
              rotate_left 3
              · (simp only [List.getElem?_toArray, List.getElem?_cons_succ, List.getElem?_cons_zero] <;> rfl)
              · rfl
              · intro w'
                go_simp
                with_reducible rfl
              · simp only [Act.put, List.setIfInBounds_toArray, List.set_cons_zero, List.set_cons_succ]
                rfl
              refine run_pure (o := ?_) (v := ?_) (a' := ?_) ?_ ?_ ?_ ?_ ?_
              rotate_left 3
              · (simp only [List.getElem?_toArray, List.getElem?_cons_succ, List.getElem?_cons_zero] <;> rfl)
              · rfl
              · intro w'
                go_simp
                with_reducible rfl
              · simp only [Act.put, List.setIfInBounds_toArray, List.set_cons_zero, List.set_cons_succ]
                rfl
              refine run_pure (o := ?_) (v := ?_) (a' := ?_) ?_ ?_ ?_ ?_ ?_
              rotate_left 3
              · (simp only [List.getElem?_toArray, List.getElem?_cons_succ, List.getElem?_cons_zero] <;> rfl)
              · rfl
              · intro w'
                go_simp
                with_reducible rfl
              · simp only [Act.put, List.setIfInBounds_toArray, List.set_cons_zero, List.set_cons_succ]
                rfl
              refine run_pure (o := ?_) (v := ?_) (a' := ?_) ?_ ?_ ?_ ?_ ?_
              rotate_left 3
              · (simp only [List.getElem?_toArray, List.getElem?_cons_succ, List.getElem?_cons_zero] <;> rfl)
              · rfl
              · intro w'
                go_simp
                with_reducible rfl
              · simp only [Act.put, List.setIfInBounds_toArray, List.set_cons_zero, List.set_cons_succ]
                rfl
              refine run_pure (o := ?_) (v := ?_) (a' := ?_) ?_ ?_ ?_ ?_ ?_
              rotate_left 3
              · (simp only [List.getElem?_toArray, List.getElem?_cons_succ, List.getElem?_cons_zero] <;> rfl)
              · rfl
              · intro w'
                go_simp
                with_reducible rfl
              · simp only [Act.put, List.setIfInBounds_toArray, List.set_cons_zero, List.set_cons_succ]
                rfl
              refine run_pure (o := ?_) (v := ?_) (a' := ?_) ?_ ?_ ?_ ?_ ?_
              rotate_left 3
              · (simp only [List.getElem?_toArray, List.getElem?_cons_succ, List.getElem?_cons_zero] <;> rfl)
              · rfl
              · intro w'
                go_simp
                with_reducible rfl
              · simp only [Act.put, List.setIfInBounds_toArray, List.set_cons_zero, List.set_cons_succ]
                rfl
              refine run_pure (o := ?_) (v := ?_) (a' := ?_) ?_ ?_ ?_ ?_ ?_
              rotate_left 3
              · (simp only [List.getElem?_toArray, List.getElem?_cons_succ, List.getElem?_cons_zero] <;> rfl)
              · rfl
              · intro w'
                go_simp
                with_reducible rfl
              · simp only [Act.put, List.setIfInBounds_toArray, List.set_cons_zero, List.set_cons_succ]
                rfl
              refine run_pure (o := ?_) (v := ?_) (a' := ?_) ?_ ?_ ?_ ?_ ?_
              rotate_left 3
              · (simp only [List.getElem?_toArray, List.getElem?_cons_succ, List.getElem?_cons_zero] <;> rfl)
              · rfl
              · intro w'
                go_simp
                with_reducible rfl
              · simp only [Act.put, List.setIfInBounds_toArray, List.set_cons_zero, List.set_cons_succ]
                rfl
              refine run_pure (o := ?_) (v := ?_) (a' := ?_) ?_ ?_ ?_ ?_ ?_
              rotate_left 3
              · (simp only [List.getElem?_toArray, List.getElem?_cons_succ, List.getElem?_cons_zero] <;> rfl)
              · rfl
              · intro w'
                go_simp
                with_reducible rfl
              · simp only [Act.put, List.setIfInBounds_toArray, List.set_cons_zero, List.set_cons_succ]
                rfl
              refine run_pure (o := ?_) (v := ?_) (a' := ?_) ?_ ?_ ?_ ?_ ?_
              rotate_left 3
              · (simp only [List.getElem?_toArray, List.getElem?_cons_succ, List.getElem?_cons_zero] <;> rfl)
              · rfl
              · intro w'
                go_simp
                with_reducible rfl
              · simp only [Act.put, List.setIfInBounds_toArray, List.set_cons_zero, List.set_cons_succ]
                rfl
              refine run_pure (o := ?_) (v := ?_) (a' := ?_) ?_ ?_ ?_ ?_ ?_
              rotate_left 3
              · (simp only [List.getElem?_toArray, List.getElem?_cons_succ, List.getElem?_cons_zero] <;> rfl)
              · rfl
              · intro w'
                go_simp
                with_reducible rfl
              · simp only [Act.put, List.setIfInBounds_toArray, List.set_cons_zero, List.set_cons_succ]
                rfl
              refine run_pure (o := ?_) (v := ?_) (a' := ?_) ?_ ?_ ?_ ?_ ?_
              rotate_left 3
              · (simp only [List.getElem?_toArray, List.getElem?_cons_succ, List.getElem?_cons_zero] <;> rfl)
              · rfl
              · intro w'
                go_simp
                with_reducible rfl
              · simp only [Act.put, List.setIfInBounds_toArray, List.set_cons_zero, List.set_cons_succ]
                rfl
              refine run_pure (o := ?_) (v := ?_) (a' := ?_) ?_ ?_ ?_ ?_ ?_
              rotate_left 3
              · (simp only [List.getElem?_toArray, List.getElem?_cons_succ, List.getElem?_cons_zero] <;> rfl)
              · rfl
              · intro w'
                go_simp
                with_reducible rfl
              · simp only [Act.put, List.setIfInBounds_toArray, List.set_cons_zero, List.set_cons_succ]
                rfl
              refine run_pure (o := ?_) (v := ?_) (a' := ?_) ?_ ?_ ?_ ?_ ?_
              rotate_left 3
              · (simp only [List.getElem?_toArray, List.getElem?_cons_succ, List.getElem?_cons_zero] <;> rfl)
              · rfl
              · intro w'
                go_simp
                with_reducible rfl
              · simp only [Act.put, List.setIfInBounds_toArray, List.set_cons_zero, List.set_cons_succ]
                rfl
              refine run_pure (o := ?_) (v := ?_) (a' := ?_) ?_ ?_ ?_ ?_ ?_
              rotate_left 3
              · (simp only [List.getElem?_toArray, List.getElem?_cons_succ, List.getElem?_cons_zero] <;> rfl)
              · rfl
              · intro w'
                go_simp
                with_reducible rfl
              · simp only [Act.put, List.setIfInBounds_toArray, List.set_cons_zero, List.set_cons_succ]
                rfl
              refine run_call (f := 22) (args := ?_) (o := ?_) (v := ?_) (a' := ?_) ?_ ?_ ?_ ?_ ?_ (Ext.refl _) ?_
              rotate_left 4
              · (simp only [List.getElem?_toArray, List.getElem?_cons_succ, List.getElem?_cons_zero] <;> rfl)
              · rfl
              · intro w'
                go_simp
                with_reducible rfl
              · intro w' hw'
                exact (tNext (T6.out.ext hw'))
              · simp only [Act.put, List.setIfInBounds_toArray, List.set_cons_zero, List.set_cons_succ]
                rfl
              refine run_pure (o := ?_) (v := ?_) (a' := ?_) ?_ ?_ ?_ ?_ ?_
              rotate_left 3
              · (simp only [List.getElem?_toArray, List.getElem?_cons_succ, List.getElem?_cons_zero] <;> rfl)
              · rfl
              · intro w'
                go_simp
                with_reducible rfl
              · simp only [Act.put, List.setIfInBounds_toArray, List.set_cons_zero, List.set_cons_succ]
                rfl
              refine run_pure (o := ?_) (v := ?_) (a' := ?_) ?_ ?_ ?_ ?_ ?_
              rotate_left 3
              · (simp only [List.getElem?_toArray, List.getElem?_cons_succ, List.getElem?_cons_zero] <;> rfl)
              · rfl
              · intro w'
                go_simp
                with_reducible rfl
              · simp only [Act.put, List.setIfInBounds_toArray, List.set_cons_zero, List.set_cons_succ]
                rfl
              refine run_pure (o := ?_) (v := ?_) (a' := ?_) ?_ ?_ ?_ ?_ ?_
              rotate_left 3
              · (simp only [List.getElem?_toArray, List.getElem?_cons_succ, List.getElem?_cons_zero] <;> rfl)
              · rfl
              · intro w'
                go_simp
                with_reducible rfl
              · simp only [Act.put, List.setIfInBounds_toArray, List.set_cons_zero, List.set_cons_succ]
                rfl
              refine run_read (o := ?_) (v := ?_) (a' := ?_) ?_ ?_ ?_ ?_ (Ext.refl _) ?_
              rotate_left 3
              · (simp only [List.getElem?_toArray, List.getElem?_cons_succ, List.getElem?_cons_zero] <;> rfl)
              · rfl
              · intro w' hw'
                obtain ⟨hc, hf⟩ := ext_cell hw'
                clear hw'
                go_simp
                with_reducible rfl
              · simp only [Act.put, List.setIfInBounds_toArray, List.set_cons_zero, List.set_cons_succ]
                rfl
              refine run_pure (o := ?_) (v := ?_) (a' := ?_) ?_ ?_ ?_ ?_ ?_
              rotate_left 3
              · (simp only [List.getElem?_toArray, List.getElem?_cons_succ, List.getElem?_cons_zero] <;> rfl)
              · rfl
              · intro w'
                go_simp
                with_reducible rfl
              · simp only [Act.put, List.setIfInBounds_toArray, List.set_cons_zero, List.set_cons_succ]
                rfl
              refine run_pure (o := ?_) (v := ?_) (a' := ?_) ?_ ?_ ?_ ?_ ?_
              rotate_left 3
              · (simp only [List.getElem?_toArray, List.getElem?_cons_succ, List.getElem?_cons_zero] <;> rfl)
              · rfl
              · intro w'
                go_simp
                with_reducible rfl
              · simp only [Act.put, List.setIfInBounds_toArray, List.set_cons_zero, List.set_cons_succ]
                rfl
              refine run_pure (o := ?_) (v := ?_) (a' := ?_) ?_ ?_ ?_ ?_ ?_
              rotate_left 3
              · (simp only [List.getElem?_toArray, List.getElem?_cons_succ, List.getElem?_cons_zero] <;> rfl)
              · rfl
              · intro w'
                go_simp
                with_reducible rfl
              · simp only [Act.put, List.setIfInBounds_toArray, List.set_cons_zero, List.set_cons_succ]
                rfl
              refine run_pure (o := ?_) (v := ?_) (a' := ?_) ?_ ?_ ?_ ?_ ?_
              rotate_left 3
              · (simp only [List.getElem?_toArray, List.getElem?_cons_succ, List.getElem?_cons_zero] <;> rfl)
              · rfl
              · intro w'
                go_simp
                with_reducible rfl
              · simp only [Act.put, List.setIfInBounds_toArray, List.set_cons_zero, List.set_cons_succ]
                rfl
              refine run_pure (o := ?_) (v := ?_) (a' := ?_) ?_ ?_ ?_ ?_ ?_
              rotate_left 3
              · (simp only [List.getElem?_toArray, List.getElem?_cons_succ, List.getElem?_cons_zero] <;> rfl)
              · rfl
              · intro w'
                go_simp
                with_reducible rfl
              · simp only [Act.put, List.setIfInBounds_toArray, List.set_cons_zero, List.set_cons_succ]
                rfl
              refine run_callG (f := 24) (args := ?_) (o := ?_) (Φ := fun w2 v w' => OwnI w' w2.heap.size v (hnd L')) ?_ ?_ ?_ ?_ ?_ (fun g1a y1 g1 hx0 hy1 hx => ?_)
              rotate_left 2
              · (simp only [List.getElem?_toArray, List.getElem?_cons_succ, List.getElem?_cons_zero] <;> rfl)
              · rfl
              · intro w'
                go_simp
                with_reducible rfl
              · intro w2 hx2
                obtain ⟨hc, hf⟩ := ext_cell hx2
                exact tHandles (T6.out.ext hx2) HW'.out.len
              · exact fun _ _ h k => h.trans k
              have hz_g1 := hx0.size
              have hy_g1 := hx.size
              try simp at hz_g1
              try simp at hy_g1
              have hx := hx0.trans hx
              clear hx0
              have hc_g1 := (ext_cell hx).1
              have hf_g1 := (ext_cell hx).2
              have HX_g1 := Lib.hid hx
              have y_g1 := hx.size
              try simp at y_g1
              clear hx
              try simp only [Act.put, List.setIfInBounds_toArray, List.set_cons_zero, List.set_cons_succ]
              refine run_callG (f := 25) (args := ?_) (o := ?_) (Φ := fun w2 v w' => OwnI w' w2.heap.size v (hnd L')) ?_ ?_ ?_ ?_ ?_ (fun g2a y2 g2 hx0 hy2 hx => ?_)
              rotate_left 2
              · (simp only [List.getElem?_toArray, List.getElem?_cons_succ, List.getElem?_cons_zero] <;> rfl)
              · rfl
              · intro w'
                go_simp
                with_reducible rfl
              · intro w2 hx2
                obtain ⟨hc, hf⟩ := ext_cell hx2
                exact qHandles (Q6.out.ext (HX_g1.out.trans hx2)) HW'.out.len
              · exact fun _ _ h k => h.trans k
              have hz_g2 := hx0.size
              have hy_g2 := hx.size
              try simp at hz_g2
              try simp at hy_g2
              have hx := hx0.trans hx
              clear hx0
              have hc_g2 := (ext_cell hx).1
              have hf_g2 := (ext_cell hx).2
              have HX_g2 := Lib.hid hx
              have y_g2 := hx.size
              try simp at y_g2
              clear hx
              try simp only [Act.put, List.setIfInBounds_toArray, List.set_cons_zero, List.set_cons_succ]
              refine run_callG (f := 23) (args := ?_) (o := ?_) (Φ := fun w2 v w' => v = .bool true) ?_ ?_ ?_ ?_ ?_ (fun g3a y3 g3 hx0 hy3 hx => ?_)
              rotate_left 2
              · (simp only [List.getElem?_toArray, List.getElem?_cons_succ, List.getElem?_cons_zero] <;> rfl)
              · rfl
              · intro w'
                go_simp
                with_reducible rfl
              · intro w2 hx2
                obtain ⟨hc, hf⟩ := ext_cell hx2
                exact rIntsG _ _ (hnd L') (by rw [hnd_length]; have := HW'.out.len; omega) w2 (hy1.reads.ext (HX_g2.out.trans hx2)) (hy2.reads.ext hx2)
              · exact fun _ _ h k => h.trans k
              have hz_g3 := hx0.size
              have hy_g3 := hx.size
              try simp at hz_g3
              try simp at hy_g3
              have hx := hx0.trans hx
              clear hx0
              have hc_g3 := (ext_cell hx).1
              have hf_g3 := (ext_cell hx).2
              have HX_g3 := Lib.hid hx
              have y_g3 := hx.size
              try simp at y_g3
              clear hx
              subst hy3
              try simp only [Act.put, List.setIfInBounds_toArray, List.set_cons_zero, List.set_cons_succ]
              refine run_pure (o := ?_) (v := ?_) (a' := ?_) ?_ ?_ ?_ ?_ ?_
              rotate_left 3
              · (simp only [List.getElem?_toArray, List.getElem?_cons_succ, List.getElem?_cons_zero] <;> rfl)
              · rfl
              · intro w'
                go_simp
                with_reducible rfl
              · simp only [Act.put, List.setIfInBounds_toArray, List.set_cons_zero, List.set_cons_succ]
                rfl
              refine run_pure (o := ?_) (v := ?_) (a' := ?_) ?_ ?_ ?_ ?_ ?_
              rotate_left 3
              · (simp only [List.getElem?_toArray, List.getElem?_cons_succ, List.getElem?_cons_zero] <;> rfl)
              · rfl
              · intro w'
                go_simp
                with_reducible rfl
              · simp only [Act.put, List.setIfInBounds_toArray, List.set_cons_zero, List.set_cons_succ]
                rfl
              refine run_nil (fun g4 hx => ?_)
              have hc_g4 := (ext_cell hx).1
              have hf_g4 := (ext_cell hx).2
              have HX_g4 := Lib.hid hx
              have y_g4 := hx.size
              try simp at y_g4
              clear hx
              go_wp2_with fail
              go_roundw
              case rel =>
                have X7 := ((HX_g1.out.trans HX_g2.out).trans HX_g3.out).trans HX_g4.out
                exact ⟨k + 1, by omega, by simp, v', u', L', nx', HW'.out, T6.out.ext X7, Q6.out.ext X7, A4.out, (X4.out.trans X6.out).trans X7⟩
              case measure => simp [intOf]; omega
            · by_cases h3 : d = 3
              · subst h3
                have e2 : goE nx b = E := HE.out
                have e3 : L = L' := HL.out
                have e4 : goN nx b = nx' := HN.out
                have e1 : 0 = R := HR.out
                have HC := qGoes Q3.out b
                rw [e2, e4] at HC
                have HC := Lib.hid HC
                have HL3 := Lib.hid e3
                subst e1
                clear e2 e3 e4 h0 h1 h2
                go_wp2_with fail
                refine HC.out.mono ?_
                rintro e w4 ⟨rfl, hQ, hG⟩
                obtain ⟨u', hu'⟩ : ∃ u', u = u' := ⟨_, rfl⟩
                rw [hu'] at hQ
                have hG : Chg qb u u' w3 w4 := hu' ▸ hG
                have Q4 := Lib.hid (HL3.out ▸ hQ)
                clear hu'
                have T4 := Lib.hid (T3.out.other A3.out.symm hG)
                have A4 := Lib.hid (A3.out.symm.chg T3.out hG).symm
                have X4 := Lib.hid (Q3.out.up hG X3.out HB.out)
                clear hQ hG Q3 T3 A3 X3 d0 d1 d2 f0 z3
                have HG1 := Lib.hid (tGet T4.out HW'.out h)
                have HG2 := Lib.hid fun (w5 : World) (x : Ext w4 w5) => qGet (Q4.out.ext x) HW'.out.len h
                obtain ⟨V, hV⟩ : ∃ V, val h L' = V := ⟨_, rfl⟩
                obtain ⟨F, hF⟩ : ∃ V, has h L' = V := ⟨_, rfl⟩
                rw [hV, hF] at HG1 HG2
                clear hV hF
                go_wp2_with fail
                refine HG1.out.mono ?_
                rintro e w5 ⟨rfl, hx⟩
                have X5 := Lib.hid hx; clear hx
                go_wp2_with fail
                refine (HG2.out _ X5.out).mono ?_
                rintro e w6 ⟨rfl, hx⟩
                have X6 := Lib.hid (X5.out.trans hx); clear hx
                have T6 := Lib.hid (T4.out.ext X6.out)
                have Q6 := Lib.hid (Q4.out.ext X6.out)
                obtain ⟨q0, q1, qf0, qf1⟩ := Q6.out.cells.two
                have zq := Q6.out.lt
                clear HG1 HG2 X5
                try dsimp only
                repeat (first | with_reducible refine wp_region_ext ?_ [(0, 0), (1, 0), (2, 0), (3, 0), (4, 0), (5, 0), (6, 0), (7, 0), (8, 0), (9, 0), (10, 0), (11, 0), (12, 0), (13, 0), (14, 0), (15, 0), (16, 0), (17, 0), (18, 0), (19, 0), (20, 1), (21, 0), (22, 0), (23, 0), (24, 1), (25, 0), (26, 0), (27, 0), (28, 0), (30, 0), (29, 2), (31, 2), (32, 2), (33, 0), (34, 0)] (fun _ => true) ?_ ?_ ?_ ?_ ?_ | go_step)
                · kernel_rfl
                · kernel_rfl
                · kernel_rfl
                · kernel_rfl
                · exact (fun _ _ d _ _ h => by cases d <;> exact h)
                refine run_pure (o := ?_) (v := ?_) (a' := ?_) ?_ ?_ ?_ ?_ ?_
                rotate_left 3
                · (simp only [List.getElem?_toArray, List.getElem?_cons_succ, List.getElem?_cons_zero] <;> rfl)
                · rfl
                · intro w'
                  go_simp
                  with_reducible rfl
                · simp only [Act.put, List.setIfInBounds_toArray, List.set_cons_zero, List.set_cons_succ]
                  rfl
                refine run_pure (o := ?_) (v := ?_) (a' := ?_) ?_ ?_ ?_ ?_ ?_
                rotate_left 3
                · (simp only [List.getElem?_toArray, List.getElem?_cons_succ, List.getElem?_cons_zero] <;> rfl)
                · rfl
                · intro w'
                  go_simp
                  with_reducible rfl
                · simp only [Act.put, List.setIfInBounds_toArray, List.set_cons_zero, List.set_cons_succ]
                  rfl
                refine run_pure (o := ?_) (v := ?_) (a' := ?_) ?_ ?_ ?_ ?_ ?_
                rotate_left 3
                · (simp only [List.getElem?_toArray, List.getElem?_cons_succ, List.getElem?_cons_zero] <;> rfl)
                · rfl
                · intro w'
                  go_simp
                  with_reducible rfl
                · simp only [Act.put, List.setIfInBounds_toArray, List.set_cons_zero, List.set_cons_succ]
                  rfl
                refine run_pure (o := ?_) (v := ?_) (a' := ?_) ?_ ?_ ?_ ?_ ?_
                rotate_left 3
                · (simp only [List.getElem?_toArray, List.getElem?_cons_succ, List.getElem?_cons_zero] <;> rfl)
                · rfl
                · intro w'
                  go_simp
                  with_reducible rfl
                · simp only [Act.put, List.setIfInBounds_toArray, List.set_cons_zero, List.set_cons_succ]
                  rfl
                refine run_pure (o := ?_) (v := ?_) (a' := ?_) ?_ ?_ ?_ ?_ ?_
                rotate_left 3
                · (simp only [List.getElem?_toArray, List.getElem?_cons_succ, List.getElem?_cons_zero] <;> rfl)
                · rfl
                · intro w'
                  go_simp
                  with_reducible rfl
                · simp only [Act.put, List.setIfInBounds_toArray, List.set_cons_zero, List.set_cons_succ]
                  rfl
                refine run_pure (o := ?_) (v := ?_) (a' := ?_) ?_ ?_ ?_ ?_ ?_
                rotate_left 3
                · (simp only [List.getElem?_toArray, List.getElem?_cons_succ, List.getElem?_cons_zero] <;> rfl)
                · rfl
                · intro w'
                  go_simp
                  with_reducible rfl
                · simp only [Act.put, List.setIfInBounds_toArray, List.set_cons_zero, List.set_cons_succ]
                  rfl
                refine run_pure (o := ?_) (v := ?_) (a' := ?_) ?_ ?_ ?_ ?_ ?_
                rotate_left 3
                · (simp only [List.getElem?_toArray, List.getElem?_cons_succ, List.getElem?_cons_zero] <;> rfl)
                · rfl
                · intro w'
                  go_simp
                  with_reducible rfl
                · simp only [Act.put, List.setIfInBounds_toArray, List.set_cons_zero, List.set_cons_succ]
                  rfl
                refine run_pure (o := ?_) (v := ?_) (a' := ?_) ?_ ?_ ?_ ?_ ?_
                rotate_left 3
                · (simp only [List.getElem?_toArray, List.getElem?_cons_succ, List.getElem?_cons_zero] <;> rfl)
                · rfl
                · intro w'
                  go_simp
                  with_reducible rfl
                · simp only [Act.put, List.setIfInBounds_toArray, List.set_cons_zero, List.set_cons_succ]
                  rfl
                refine run_pure (o := ?_) (v := ?_) (a' := ?_) ?_ ?_ ?_ ?_ ?_
                rotate_left 3
                · (simp only [List.getElem?_toArray, List.getElem?_cons_succ, List.getElem?_cons_zero] <;> rfl)
                · rfl
                · intro w'
                  go_simp
                  with_reducible rfl
                · simp only [Act.put, List.setIfInBounds_toArray, List.set_cons_zero, List.set_cons_succ]
                  rfl
                refine run_pure (o := ?_) (v := ?_) (a' := ?_) ?_ ?_ ?_ ?_ ?_
                rotate_left 3
                · (simp only [List.getElem?_toArray, List.getElem?_cons_succ, List.getElem?_cons_zero] <;> rfl)
                · rfl
                · intro w'
                  go_simp
                  with_reducible rfl
                · simp only [Act.put, List.setIfInBounds_toArray, List.set_cons_zero, List.set_cons_succ]
                  rfl
                refine run_pure (o := ?_) (v := ?_) (a' := ?_) ?_ ?_ ?_ ?_ ?_
                rotate_left 3
                · (simp only [List.getElem?_toArray, List.getElem?_cons_succ, List.getElem?_cons_zero] <;> rfl)
                · rfl
                · intro w'
                  go_simp
                  with_reducible rfl
                · simp only [Act.put, List.setIfInBounds_toArray, List.set_cons_zero, List.set_cons_succ]
                  rfl
                refine run_pure (o := ?_) (v := ?_) (a' := ?_) ?_ ?_ ?_ ?_ ?_
                rotate_left 3
                · (simp only [List.getElem?_toArray, List.getElem?_cons_succ, List.getElem?_cons_zero] <;> rfl)
                · rfl
                · intro w'
                  go_simp
                  with_reducible rfl
                · simp only [Act.put, List.setIfInBounds_toArray, List.set_cons_zero, List.set_cons_succ]
                  rfl
                refine run_pure (o := ?_) (v := ?_) (a' := ?_) ?_ ?_ ?_ ?_ ?_
                rotate_left 3
                · (simp only [List.getElem?_toArray, List.getElem?_cons_succ, List.getElem?_cons_zero] <;> rfl)
                · rfl
                · intro w'
                  go_simp
                  with_reducible rfl
                · simp only [Act.put, List.setIfInBounds_toArray, List.set_cons_zero, List.set_cons_succ]
                  rfl
                refine run_pure (o := ?_) (v := ?_) (a' := ?_) ?_ ?_ ?_ ?_ ?_
                rotate_left 3
                · (simp only [List.getElem?_toArray, List.getElem?_cons_succ, List.getElem?_cons_zero] <;> rfl)
                · rfl
                · intro w'
                  go_simp
                  with_reducible rfl
                · simp only [Act.put, List.setIfInBounds_toArray, List.set_cons_zero, List.set_cons_succ]
                  rfl
                refine run_pure (o := ?_) (v := ?_) (a' := ?_) ?_ ?_ ?_ ?_ ?_
                rotate_left 3
                · (simp only [List.getElem?_toArray, List.getElem?_cons_succ, List.getElem?_cons_zero] <;> rfl)
                · rfl
                · intro w'
                  go_simp
                  with_reducible rfl
                · simp only [Act.put, List.setIfInBounds_toArray, List.set_cons_zero, List.set_cons_succ]
                  rfl
                refine run_pure (o := ?_) (v := ?_) (a' := ?_) ?_ ?_ ?_ ?_ ?_
                rotate_left 3
                · (simp only [List.getElem?_toArray, List.getElem?_cons_succ, List.getElem?_cons_zero] <;> rfl)
                · rfl
                · intro w'
                  go_simp
                  with_reducible rfl
                · simp only [Act.put, List.setIfInBounds_toArray, List.set_cons_zero, List.set_cons_succ]
                  rfl
                refine run_pure (o := ?_) (v := ?_) (a' := ?_) ?_ ?_ ?_ ?_ ?_
                rotate_left 3
                · (simp only [List.getElem?_toArray, List.getElem?_cons_succ, List.getElem?_cons_zero] <;> rfl)
                · rfl
                · intro w'
                  go_simp
                  with_reducible rfl
                · simp only [Act.put, List.setIfInBounds_toArray, List.set_cons_zero, List.set_cons_succ]
                  rfl
                refine run_pure (o := ?_) (v := ?_) (a' := ?_) ?_ ?_ ?_ ?_ ?_
                rotate_left 3
                · (simp only [List.getElem?_toArray, List.getElem?_cons_succ, List.getElem?_cons_zero] <;> rfl)
                · rfl
                · intro w'
                  go_simp
                  with_reducible rfl
                · simp only [Act.put, List.setIfInBounds_toArray, List.set_cons_zero, List.set_cons_succ]
                  rfl
                refine run_pure (o := ?_) (v := ?_) (a' := ?_) ?_ ?_ ?_ ?_ ?_
                rotate_left 3
                · (simp only [List.getElem?_toArray, List.getElem?_cons_succ, List.getElem?_cons_zero] <;> rfl)
                · rfl
                · intro w'
                  go_simp
                  with_reducible rfl
                · simp only [Act.put, List.setIfInBounds_toArray, List.set_cons_zero, List.set_cons_succ]
                  rfl
                refine run_pure (o := ?_) (v := ?_) (a' := ?_) ?_ ?_ ?_ ?_ ?_
                rotate_left 3
                · (simp only [List.getElem?_toArray, List.getElem?_cons_succ, List.getElem?_cons_zero] <;> rfl)
                · rfl
                · intro w'
                  go_simp
                  with_reducible rfl
                · simp only [Act.put, List.setIfInBounds_toArray, List.set_cons_zero, List.set_cons_succ]
                  rfl
                refine run_call (f := 22) (args := ?_) (o := ?_) (v := ?_) (a' := ?_) ?_ ?_ ?_ ?_ ?_ (Ext.refl _) ?_
                rotate_left 4
                · (simp only [List.getElem?_toArray, List.getElem?_cons_succ, List.getElem?_cons_zero] <;> rfl)
                · rfl
                · intro w'
                  go_simp
                  with_reducible rfl
                · intro w' hw'
                  exact (tNext (T6.out.ext hw'))
                · simp only [Act.put, List.setIfInBounds_toArray, List.set_cons_zero, List.set_cons_succ]
                  rfl
                refine run_pure (o := ?_) (v := ?_) (a' := ?_) ?_ ?_ ?_ ?_ ?_
                rotate_left 3
                · (simp only [List.getElem?_toArray, List.getElem?_cons_succ, List.getElem?_cons_zero] <;> rfl)
                · rfl
                · intro w'
                  go_simp
                  with_reducible rfl
                · simp only [Act.put, List.setIfInBounds_toArray, List.set_cons_zero, List.set_cons_succ]
                  rfl
                refine run_pure (o := ?_) (v := ?_) (a' := ?_) ?_ ?_ ?_ ?_ ?_
                rotate_left 3
                · (simp only [List.getElem?_toArray, List.getElem?_cons_succ, List.getElem?_cons_zero] <;> rfl)
                · rfl
                · intro w'
                  go_simp
                  with_reducible rfl
                · simp only [Act.put, List.setIfInBounds_toArray, List.set_cons_zero, List.set_cons_succ]
                  rfl
                refine run_pure (o := ?_) (v := ?_) (a' := ?_) ?_ ?_ ?_ ?_ ?_
                rotate_left 3
                · (simp only [List.getElem?_toArray, List.getElem?_cons_succ, List.getElem?_cons_zero] <;> rfl)
                · rfl
                · intro w'
                  go_simp
                  with_reducible rfl
                · simp only [Act.put, List.setIfInBounds_toArray, List.set_cons_zero, List.set_cons_succ]
                  rfl
                refine run_read (o := ?_) (v := ?_) (a' := ?_) ?_ ?_ ?_ ?_ (Ext.refl _) ?_
                rotate_left 3
                · (simp only [List.getElem?_toArray, List.getElem?_cons_succ, List.getElem?_cons_zero] <;> rfl)
                · rfl
                · intro w' hw'
                  obtain ⟨hc, hf⟩ := ext_cell hw'
                  clear hw'
                  go_simp
                  with_reducible rfl
                · simp only [Act.put, List.setIfInBounds_toArray, List.set_cons_zero, List.set_cons_succ]
                  rfl
                refine run_pure (o := ?_) (v := ?_) (a' := ?_) ?_ ?_ ?_ ?_ ?_
                rotate_left 3
                · (simp only [List.getElem?_toArray, List.getElem?_cons_succ, List.getElem?_cons_zero] <;> rfl)
                · rfl
                · intro w'
                  go_simp
                  with_reducible rfl
                · simp only [Act.put, List.setIfInBounds_toArray, List.set_cons_zero, List.set_cons_succ]
                  rfl
                refine run_pure (o := ?_) (v := ?_) (a' := ?_) ?_ ?_ ?_ ?_ ?_
                rotate_left 3
                · (simp only [List.getElem?_toArray, List.getElem?_cons_succ, List.getElem?_cons_zero] <;> rfl)
                · rfl
                · intro w'
                  go_simp
                  with_reducible rfl
                · simp only [Act.put, List.setIfInBounds_toArray, List.set_cons_zero, List.set_cons_succ]
                  rfl
                refine run_pure (o := ?_) (v := ?_) (a' := ?_) ?_ ?_ ?_ ?_ ?_
                rotate_left 3
                · (simp only [List.getElem?_toArray, List.getElem?_cons_succ, List.getElem?_cons_zero] <;> rfl)
                · rfl
                · intro w'
                  go_simp
                  with_reducible rfl
                · simp only [Act.put, List.setIfInBounds_toArray, List.set_cons_zero, List.set_cons_succ]
                  rfl
                refine run_pure (o := ?_) (v := ?_) (a' := ?_) ?_ ?_ ?_ ?_ ?_
                rotate_left 3
                · (simp only [List.getElem?_toArray, List.getElem?_cons_succ, List.getElem?_cons_zero] <;> rfl)
                · rfl
                · intro w'
                  go_simp
                  with_reducible rfl
                · simp only [Act.put, List.setIfInBounds_toArray, List.set_cons_zero, List.set_cons_succ]
                  rfl
                refine run_pure (o := ?_) (v := ?_) (a' := ?_) ?_ ?_ ?_ ?_ ?_
                rotate_left 3
                · (simp only [List.getElem?_toArray, List.getElem?_cons_succ, List.getElem?_cons_zero] <;> rfl)
                · rfl
                · intro w'
                  go_simp
                  with_reducible rfl
                · simp only [Act.put, List.setIfInBounds_toArray, List.set_cons_zero, List.set_cons_succ]
                  rfl
                refine run_callG (f := 24) (args := ?_) (o := ?_) (Φ := fun w2 v w' => OwnI w' w2.heap.size v (hnd L')) ?_ ?_ ?_ ?_ ?_ (fun g1a y1 g1 hx0 hy1 hx => ?_)
                rotate_left 2
                · (simp only [List.getElem?_toArray, List.getElem?_cons_succ, List.getElem?_cons_zero] <;> rfl)
                · rfl
                · intro w'
                  go_simp
                  with_reducible rfl
                · intro w2 hx2
                  obtain ⟨hc, hf⟩ := ext_cell hx2
                  exact tHandles (T6.out.ext hx2) HW'.out.len
                · exact fun _ _ h k => h.trans k
                have hz_g1 := hx0.size
                have hy_g1 := hx.size
                try simp at hz_g1
                try simp at hy_g1
                have hx := hx0.trans hx
                clear hx0
                have hc_g1 := (ext_cell hx).1
                have hf_g1 := (ext_cell hx).2
                have HX_g1 := Lib.hid hx
                have y_g1 := hx.size
                try simp at y_g1
                clear hx
                try simp only [Act.put, List.setIfInBounds_toArray, List.set_cons_zero, List.set_cons_succ]
                refine run_callG (f := 25) (args := ?_) (o := ?_) (Φ := fun w2 v w' => OwnI w' w2.heap.size v (hnd L')) ?_ ?_ ?_ ?_ ?_ (fun g2a y2 g2 hx0 hy2 hx => ?_)
                rotate_left 2
                · (simp only [List.getElem?_toArray, List.getElem?_cons_succ, List.getElem?_cons_zero] <;> rfl)
                · rfl
                · intro w'
                  go_simp
                  with_reducible rfl
                · intro w2 hx2
                  obtain ⟨hc, hf⟩ := ext_cell hx2
                  exact qHandles (Q6.out.ext (HX_g1.out.trans hx2)) HW'.out.len
                · exact fun _ _ h k => h.trans k
                have hz_g2 := hx0.size
                have hy_g2 := hx.size
                try simp at hz_g2
                try simp at hy_g2
                have hx := hx0.trans hx
                clear hx0
                have hc_g2 := (ext_cell hx).1
                have hf_g2 := (ext_cell hx).2
                have HX_g2 := Lib.hid hx
                have y_g2 := hx.size
                try simp at y_g2
                clear hx
                try simp only [Act.put, List.setIfInBounds_toArray, List.set_cons_zero, List.set_cons_succ]
                refine run_callG (f := 23) (args := ?_) (o := ?_) (Φ := fun w2 v w' => v = .bool true) ?_ ?_ ?_ ?_ ?_ (fun g3a y3 g3 hx0 hy3 hx => ?_)
                rotate_left 2
                · (simp only [List.getElem?_toArray, List.getElem?_cons_succ, List.getElem?_cons_zero] <;> rfl)
                · rfl
                · intro w'
                  go_simp
                  with_reducible rfl
                · intro w2 hx2
                  obtain ⟨hc, hf⟩ := ext_cell hx2
                  exact rIntsG _ _ (hnd L') (by rw [hnd_length]; have := HW'.out.len; omega) w2 (hy1.reads.ext (HX_g2.out.trans hx2)) (hy2.reads.ext hx2)
                · exact fun _ _ h k => h.trans k
                have hz_g3 := hx0.size
                have hy_g3 := hx.size
                try simp at hz_g3
                try simp at hy_g3
                have hx := hx0.trans hx
                clear hx0
                have hc_g3 := (ext_cell hx).1
                have hf_g3 := (ext_cell hx).2
                have HX_g3 := Lib.hid hx
                have y_g3 := hx.size
                try simp at y_g3
                clear hx
                subst hy3
                try simp only [Act.put, List.setIfInBounds_toArray, List.set_cons_zero, List.set_cons_succ]
                refine run_pure (o := ?_) (v := ?_) (a' := ?_) ?_ ?_ ?_ ?_ ?_
                rotate_left 3
                · (simp only [List.getElem?_toArray, List.getElem?_cons_succ, List.getElem?_cons_zero] <;> rfl)
                · rfl
                · intro w'
                  go_simp
                  with_reducible rfl
                · simp only [Act.put, List.setIfInBounds_toArray, List.set_cons_zero, List.set_cons_succ]
                  rfl
                refine run_pure (o := ?_) (v := ?_) (a' := ?_) ?_ ?_ ?_ ?_ ?_
                rotate_left 3
                · (simp only [List.getElem?_toArray, List.getElem?_cons_succ, List.getElem?_cons_zero] <;> rfl)
                · rfl
                · intro w'
                  go_simp
                  with_reducible rfl
                · simp only [Act.put, List.setIfInBounds_toArray, List.set_cons_zero, List.set_cons_succ]
                  rfl
                refine run_nil (fun g4 hx => ?_)
                have hc_g4 := (ext_cell hx).1
                have hf_g4 := (ext_cell hx).2
                have HX_g4 := Lib.hid hx
                have y_g4 := hx.size
                try simp at y_g4
                clear hx
                go_wp2_with fail
                go_roundw
                case rel =>
                  have X7 := ((HX_g1.out.trans HX_g2.out).trans HX_g3.out).trans HX_g4.out
                  exact ⟨k + 1, by omega, by simp, v', u', L', nx', HW'.out, T6.out.ext X7, Q6.out.ext X7, A4.out, (X4.out.trans X6.out).trans X7⟩
                case measure => simp [intOf]; omega
              · have e2 : 0 = E := by rw [← HE.out]; unfold doE; rw [if_neg h0, if_neg h2, if_neg h3]
                have e3 : L = L' := by rw [← HL.out]; unfold doL; rw [if_neg h0, if_neg h1, if_neg h2]
                have e4 : nx = nx' := by rw [← HN.out]; unfold doN; rw [if_neg h0, if_neg h2, if_neg h3]
                have e1 : 0 = R := by rw [← HR.out]; unfold doR; rw [if_neg h0, if_neg h1]
                have t0 : decide (d = 0) = false := decide_eq_false h0
                have t1 : decide (d = 1) = false := decide_eq_false h1
                have t2 : decide (d = 2) = false := decide_eq_false h2
                have t3 : decide (d = 3) = false := decide_eq_false h3
                have s0 : (d == 0) = false := t0
                have s1 : (d == 1) = false := t1
                have s2 : (d == 2) = false := t2
                have s3 : (d == 3) = false := t3
                obtain ⟨w4, hw4⟩ : ∃ w4, w3 = w4 := ⟨_, rfl⟩
                obtain ⟨u', hu'⟩ : ∃ u', u = u' := ⟨_, rfl⟩
                have Q4 := Lib.hid (show Tab QT tb w4 qb u' L' nx' by rw [← hw4, ← hu', ← e3, ← e4]; exact Q3.out)
                have T4 := Lib.hid (hw4 ▸ T3.out)
                have A4 := Lib.hid (hu' ▸ A3.out)
                have X4 := Lib.hid (hw4 ▸ X3.out)
                subst hw4
                subst e1 e2
                clear hu' e3 e4 h0 h1 h2 h3
                clear Q3 T3 A3 X3
                have HG1 := Lib.hid (tGet T4.out HW'.out h)
                have HG2 := Lib.hid fun (w5 : World) (x : Ext w3 w5) => qGet (Q4.out.ext x) HW'.out.len h
                obtain ⟨V, hV⟩ : ∃ V, val h L' = V := ⟨_, rfl⟩
                obtain ⟨F, hF⟩ : ∃ V, has h L' = V := ⟨_, rfl⟩
                rw [hV, hF] at HG1 HG2
                clear hV hF
                go_wp2_with fail
                refine HG1.out.mono ?_
                rintro e w5 ⟨rfl, hx⟩
                have X5 := Lib.hid hx; clear hx
                go_wp2_with fail
                refine (HG2.out _ X5.out).mono ?_
                rintro e w6 ⟨rfl, hx⟩
                have X6 := Lib.hid (X5.out.trans hx); clear hx
                have T6 := Lib.hid (T4.out.ext X6.out)
                have Q6 := Lib.hid (Q4.out.ext X6.out)
                obtain ⟨q0, q1, qf0, qf1⟩ := Q6.out.cells.two
                have zq := Q6.out.lt
                clear HG1 HG2 X5
                try dsimp only
                repeat (first | with_reducible refine wp_region_ext ?_ [(0, 0), (1, 0), (2, 0), (3, 0), (4, 0), (5, 0), (6, 0), (7, 0), (8, 0), (9, 0), (10, 0), (11, 0), (12, 0), (13, 0), (14, 0), (15, 0), (16, 0), (17, 0), (18, 0), (19, 0), (20, 1), (21, 0), (22, 0), (23, 0), (24, 1), (25, 0), (26, 0), (27, 0), (28, 0), (30, 0), (29, 2), (31, 2), (32, 2), (33, 0), (34, 0)] (fun _ => true) ?_ ?_ ?_ ?_ ?_ | go_step)
                · kernel_rfl
                · kernel_rfl
                · kernel_rfl
                · kernel_rfl
                · exact (fun _ _ d _ _ h => by cases d <;> exact h)
                refine run_pure (o := ?_) (v := ?_) (a' := ?_) ?_ ?_ ?_ ?_ ?_
                rotate_left 3
                · (simp only [List.getElem?_toArray, List.getElem?_cons_succ, List.getElem?_cons_zero] <;> rfl)
                · rfl
                · intro w'
                  go_simp
                  with_reducible rfl
                · simp only [Act.put, List.setIfInBounds_toArray, List.set_cons_zero, List.set_cons_succ]
                  rfl
                refine run_pure (o := ?_) (v := ?_) (a' := ?_) ?_ ?_ ?_ ?_ ?_
                rotate_left 3
                · (simp only [List.getElem?_toArray, List.getElem?_cons_succ, List.getElem?_cons_zero] <;> rfl)
                · rfl
                · intro w'
                  go_simp
                  with_reducible rfl
                · simp only [Act.put, List.setIfInBounds_toArray, List.set_cons_zero, List.set_cons_succ]
                  rfl
                refine run_pure (o := ?_) (v := ?_) (a' := ?_) ?_ ?_ ?_ ?_ ?_
                rotate_left 3
                · (simp only [List.getElem?_toArray, List.getElem?_cons_succ, List.getElem?_cons_zero] <;> rfl)
                · rfl
                · intro w'
                  go_simp
                  with_reducible rfl
                · simp only [Act.put, List.setIfInBounds_toArray, List.set_cons_zero, List.set_cons_succ]
                  rfl
                refine run_pure (o := ?_) (v := ?_) (a' := ?_) ?_ ?_ ?_ ?_ ?_
                rotate_left 3
                · (simp only [List.getElem?_toArray, List.getElem?_cons_succ, List.getElem?_cons_zero] <;> rfl)
                · rfl
                · intro w'
                  go_simp
                  with_reducible rfl
                · simp only [Act.put, List.setIfInBounds_toArray, List.set_cons_zero, List.set_cons_succ]
                  rfl
                refine run_pure (o := ?_) (v := ?_) (a' := ?_) ?_ ?_ ?_ ?_ ?_
                rotate_left 3
                · (simp only [List.getElem?_toArray, List.getElem?_cons_succ, List.getElem?_cons_zero] <;> rfl)
                · rfl
                · intro w'
                  go_simp
                  with_reducible rfl
                · simp only [Act.put, List.setIfInBounds_toArray, List.set_cons_zero, List.set_cons_succ]
                  rfl
                refine run_pure (o := ?_) (v := ?_) (a' := ?_) ?_ ?_ ?_ ?_ ?_
                rotate_left 3
                · (simp only [List.getElem?_toArray, List.getElem?_cons_succ, List.getElem?_cons_zero] <;> rfl)
                · rfl
                · intro w'
                  go_simp
                  with_reducible rfl
                · simp only [Act.put, List.setIfInBounds_toArray, List.set_cons_zero, List.set_cons_succ]
                  rfl
                refine run_pure (o := ?_) (v := ?_) (a' := ?_) ?_ ?_ ?_ ?_ ?_
                rotate_left 3
                · (simp only [List.getElem?_toArray, List.getElem?_cons_succ, List.getElem?_cons_zero] <;> rfl)
                · rfl
                · intro w'
                  go_simp
                  with_reducible rfl
                · simp only [Act.put, List.setIfInBounds_toArray, List.set_cons_zero, List.set_cons_succ]
                  rfl
                refine run_pure (o := ?_) (v := ?_) (a' := ?_) ?_ ?_ ?_ ?_ ?_
                rotate_left 3
                · (simp only [List.getElem?_toArray, List.getElem?_cons_succ, List.getElem?_cons_zero] <;> rfl)
                · rfl
                · intro w'
                  go_simp
                  with_reducible rfl
                · simp only [Act.put, List.setIfInBounds_toArray, List.set_cons_zero, List.set_cons_succ]
                  rfl
                refine run_pure (o := ?_) (v := ?_) (a' := ?_) ?_ ?_ ?_ ?_ ?_
                rotate_left 3
                · (simp only [List.getElem?_toArray, List.getElem?_cons_succ, List.getElem?_cons_zero] <;> rfl)
                · rfl
                · intro w'
                  go_simp
                  with_reducible rfl
                · simp only [Act.put, List.setIfInBounds_toArray, List.set_cons_zero, List.set_cons_succ]
                  rfl
                refine run_pure (o := ?_) (v := ?_) (a' := ?_) ?_ ?_ ?_ ?_ ?_
                rotate_left 3
                · (simp only [List.getElem?_toArray, List.getElem?_cons_succ, List.getElem?_cons_zero] <;> rfl)
                · rfl
                · intro w'
                  go_simp
                  with_reducible rfl
                · simp only [Act.put, List.setIfInBounds_toArray, List.set_cons_zero, List.set_cons_succ]
                  rfl
                refine run_pure (o := ?_) (v := ?_) (a' := ?_) ?_ ?_ ?_ ?_ ?_
                rotate_left 3
                · (simp only [List.getElem?_toArray, List.getElem?_cons_succ, List.getElem?_cons_zero] <;> rfl)
                · rfl
                · intro w'
                  go_simp
                  with_reducible rfl
                · simp only [Act.put, List.setIfInBounds_toArray, List.set_cons_zero, List.set_cons_succ]
                  rfl
                refine run_pure (o := ?_) (v := ?_) (a' := ?_) ?_ ?_ ?_ ?_ ?_
                rotate_left 3
                · (simp only [List.getElem?_toArray, List.getElem?_cons_succ, List.getElem?_cons_zero] <;> rfl)
                · rfl
                · intro w'
                  go_simp
                  with_reducible rfl
                · simp only [Act.put, List.setIfInBounds_toArray, List.set_cons_zero, List.set_cons_succ]
                  rfl
                refine run_pure (o := ?_) (v := ?_) (a' := ?_) ?_ ?_ ?_ ?_ ?_
                rotate_left 3
                · (simp only [List.getElem?_toArray, List.getElem?_cons_succ, List.getElem?_cons_zero] <;> rfl)
                · rfl
                · intro w'
                  go_simp
                  with_reducible rfl
                · simp only [Act.put, List.setIfInBounds_toArray, List.set_cons_zero, List.set_cons_succ]
                  rfl
                refine run_pure (o := ?_) (v := ?_) (a' := ?_) ?_ ?_ ?_ ?_ ?_
                rotate_left 3
                · (simp only [List.getElem?_toArray, List.getElem?_cons_succ, List.getElem?_cons_zero] <;> rfl)
                · rfl
                · intro w'
                  go_simp
                  with_reducible rfl
                · simp only [Act.put, List.setIfInBounds_toArray, List.set_cons_zero, List.set_cons_succ]
                  rfl
                refine run_pure (o := ?_) (v := ?_) (a' := ?_) ?_ ?_ ?_ ?_ ?_
                rotate_left 3
                · (simp only [List.getElem?_toArray, List.getElem?_cons_succ, List.getElem?_cons_zero] <;> rfl)
                · rfl
                · intro w'
                  go_simp
                  with_reducible rfl
                · simp only [Act.put, List.setIfInBounds_toArray, List.set_cons_zero, List.set_cons_succ]
                  rfl
                refine run_pure (o := ?_) (v := ?_) (a' := ?_) ?_ ?_ ?_ ?_ ?_
                rotate_left 3
                · (simp only [List.getElem?_toArray, List.getElem?_cons_succ, List.getElem?_cons_zero] <;> rfl)
                · rfl
                · intro w'
                  go_simp
                  with_reducible rfl
                · simp only [Act.put, List.setIfInBounds_toArray, List.set_cons_zero, List.set_cons_succ]
                  rfl
                refine run_pure (o := ?_) (v := ?_) (a' := ?_) ?_ ?_ ?_ ?_ ?_
                rotate_left 3
                · (simp only [List.getElem?_toArray, List.getElem?_cons_succ, List.getElem?_cons_zero] <;> rfl)
                · rfl
                · intro w'
                  go_simp
                  with_reducible rfl
                · simp only [Act.put, List.setIfInBounds_toArray, List.set_cons_zero, List.set_cons_succ]
                  rfl
                refine run_pure (o := ?_) (v := ?_) (a' := ?_) ?_ ?_ ?_ ?_ ?_
                rotate_left 3
                · (simp only [List.getElem?_toArray, List.getElem?_cons_succ, List.getElem?_cons_zero] <;> rfl)
                · rfl
                · intro w'
                  go_simp
                  with_reducible rfl
                · simp only [Act.put, List.setIfInBounds_toArray, List.set_cons_zero, List.set_cons_succ]
                  rfl
                refine run_pure (o := ?_) (v := ?_) (a' := ?_) ?_ ?_ ?_ ?_ ?_
                rotate_left 3
                · (simp only [List.getElem?_toArray, List.getElem?_cons_succ, List.getElem?_cons_zero] <;> rfl)
                · rfl
                · intro w'
                  go_simp
                  with_reducible rfl
                · simp only [Act.put, List.setIfInBounds_toArray, List.set_cons_zero, List.set_cons_succ]
                  rfl
                refine run_pure (o := ?_) (v := ?_) (a' := ?_) ?_ ?_ ?_ ?_ ?_
                rotate_left 3
                · (simp only [List.getElem?_toArray, List.getElem?_cons_succ, List.getElem?_cons_zero] <;> rfl)
                · rfl
                · intro w'
                  go_simp
                  with_reducible rfl
                · simp only [Act.put, List.setIfInBounds_toArray, List.set_cons_zero, List.set_cons_succ]
                  rfl
                refine run_call (f := 22) (args := ?_) (o := ?_) (v := ?_) (a' := ?_) ?_ ?_ ?_ ?_ ?_ (Ext.refl _) ?_
                rotate_left 4
                · (simp only [List.getElem?_toArray, List.getElem?_cons_succ, List.getElem?_cons_zero] <;> rfl)
                · rfl
                · intro w'
                  go_simp
                  with_reducible rfl
                · intro w' hw'
                  exact (tNext (T6.out.ext hw'))
                · simp only [Act.put, List.setIfInBounds_toArray, List.set_cons_zero, List.set_cons_succ]
                  rfl
                refine run_pure (o := ?_) (v := ?_) (a' := ?_) ?_ ?_ ?_ ?_ ?_
                rotate_left 3
                · (simp only [List.getElem?_toArray, List.getElem?_cons_succ, List.getElem?_cons_zero] <;> rfl)
                · rfl
                · intro w'
                  go_simp
                  with_reducible rfl
                · simp only [Act.put, List.setIfInBounds_toArray, List.set_cons_zero, List.set_cons_succ]
                  rfl
                refine run_pure (o := ?_) (v := ?_) (a' := ?_) ?_ ?_ ?_ ?_ ?_
                rotate_left 3
                · (simp only [List.getElem?_toArray, List.getElem?_cons_succ, List.getElem?_cons_zero] <;> rfl)
                · rfl
                · intro w'
                  go_simp
                  with_reducible rfl
                · simp only [Act.put, List.setIfInBounds_toArray, List.set_cons_zero, List.set_cons_succ]
                  rfl
                refine run_pure (o := ?_) (v := ?_) (a' := ?_) ?_ ?_ ?_ ?_ ?_
                rotate_left 3
                · (simp only [List.getElem?_toArray, List.getElem?_cons_succ, List.getElem?_cons_zero] <;> rfl)
                · rfl
                · intro w'
                  go_simp
                  with_reducible rfl
                · simp only [Act.put, List.setIfInBounds_toArray, List.set_cons_zero, List.set_cons_succ]
                  rfl
                refine run_read (o := ?_) (v := ?_) (a' := ?_) ?_ ?_ ?_ ?_ (Ext.refl _) ?_
                rotate_left 3
                · (simp only [List.getElem?_toArray, List.getElem?_cons_succ, List.getElem?_cons_zero] <;> rfl)
                · rfl
                · intro w' hw'
                  obtain ⟨hc, hf⟩ := ext_cell hw'
                  clear hw'
                  go_simp
                  with_reducible rfl
                · simp only [Act.put, List.setIfInBounds_toArray, List.set_cons_zero, List.set_cons_succ]
                  rfl
                refine run_pure (o := ?_) (v := ?_) (a' := ?_) ?_ ?_ ?_ ?_ ?_
                rotate_left 3
                · (simp only [List.getElem?_toArray, List.getElem?_cons_succ, List.getElem?_cons_zero] <;> rfl)
                · rfl
                · intro w'
                  go_simp
                  with_reducible rfl
                · simp only [Act.put, List.setIfInBounds_toArray, List.set_cons_zero, List.set_cons_succ]
                  rfl
                refine run_pure (o := ?_) (v := ?_) (a' := ?_) ?_ ?_ ?_ ?_ ?_
                rotate_left 3
                · (simp only [List.getElem?_toArray, List.getElem?_cons_succ, List.getElem?_cons_zero] <;> rfl)
                · rfl
                · intro w'
                  go_simp
                  with_reducible rfl
                · simp only [Act.put, List.setIfInBounds_toArray, List.set_cons_zero, List.set_cons_succ]
                  rfl
                refine run_pure (o := ?_) (v := ?_) (a' := ?_) ?_ ?_ ?_ ?_ ?_
                rotate_left 3
                · (simp only [List.getElem?_toArray, List.getElem?_cons_succ, List.getElem?_cons_zero] <;> rfl)
                · rfl
                · intro w'
                  go_simp
                  with_reducible rfl
                · simp only [Act.put, List.setIfInBounds_toArray, List.set_cons_zero, List.set_cons_succ]
                  rfl
                refine run_pure (o := ?_) (v := ?_) (a' := ?_) ?_ ?_ ?_ ?_ ?_
                rotate_left 3
                · (simp only [List.getElem?_toArray, List.getElem?_cons_succ, List.getElem?_cons_zero] <;> rfl)
                · rfl
                · intro w'
                  go_simp
                  with_reducible rfl
                · simp only [Act.put, List.setIfInBounds_toArray, List.set_cons_zero, List.set_cons_succ]
                  rfl
                refine run_pure (o := ?_) (v := ?_) (a' := ?_) ?_ ?_ ?_ ?_ ?_
                rotate_left 3
                · (simp only [List.getElem?_toArray, List.getElem?_cons_succ, List.getElem?_cons_zero] <;> rfl)
                · rfl
                · intro w'
                  go_simp
                  with_reducible rfl
                · simp only [Act.put, List.setIfInBounds_toArray, List.set_cons_zero, List.set_cons_succ]
                  rfl
                refine run_callG (f := 24) (args := ?_) (o := ?_) (Φ := fun w2 v w' => OwnI w' w2.heap.size v (hnd L')) ?_ ?_ ?_ ?_ ?_ (fun g1a y1 g1 hx0 hy1 hx => ?_)
                rotate_left 2
                · (simp only [List.getElem?_toArray, List.getElem?_cons_succ, List.getElem?_cons_zero] <;> rfl)
                · rfl
                · intro w'
                  go_simp
                  with_reducible rfl
                · intro w2 hx2
                  obtain ⟨hc, hf⟩ := ext_cell hx2
                  exact tHandles (T6.out.ext hx2) HW'.out.len
                · exact fun _ _ h k => h.trans k
                have hz_g1 := hx0.size
                have hy_g1 := hx.size
                try simp at hz_g1
                try simp at hy_g1
                have hx := hx0.trans hx
                clear hx0
                have hc_g1 := (ext_cell hx).1
                have hf_g1 := (ext_cell hx).2
                have HX_g1 := Lib.hid hx
                have y_g1 := hx.size
                try simp at y_g1
                clear hx
                try simp only [Act.put, List.setIfInBounds_toArray, List.set_cons_zero, List.set_cons_succ]
                refine run_callG (f := 25) (args := ?_) (o := ?_) (Φ := fun w2 v w' => OwnI w' w2.heap.size v (hnd L')) ?_ ?_ ?_ ?_ ?_ (fun g2a y2 g2 hx0 hy2 hx => ?_)
                rotate_left 2
                · (simp only [List.getElem?_toArray, List.getElem?_cons_succ, List.getElem?_cons_zero] <;> rfl)
                · rfl
                · intro w'
                  go_simp
                  with_reducible rfl
                · intro w2 hx2
                  obtain ⟨hc, hf⟩ := ext_cell hx2
                  exact qHandles (Q6.out.ext (HX_g1.out.trans hx2)) HW'.out.len
                · exact fun _ _ h k => h.trans k
                have hz_g2 := hx0.size
                have hy_g2 := hx.size
                try simp at hz_g2
                try simp at hy_g2
                have hx := hx0.trans hx
                clear hx0
                have hc_g2 := (ext_cell hx).1
                have hf_g2 := (ext_cell hx).2
                have HX_g2 := Lib.hid hx
                have y_g2 := hx.size
                try simp at y_g2
                clear hx
                try simp only [Act.put, List.setIfInBounds_toArray, List.set_cons_zero, List.set_cons_succ]
                refine run_callG (f := 23) (args := ?_) (o := ?_) (Φ := fun w2 v w' => v = .bool true) ?_ ?_ ?_ ?_ ?_ (fun g3a y3 g3 hx0 hy3 hx => ?_)
                rotate_left 2
                · (simp only [List.getElem?_toArray, List.getElem?_cons_succ, List.getElem?_cons_zero] <;> rfl)
                · rfl
                · intro w'
                  go_simp
                  with_reducible rfl
                · intro w2 hx2
                  obtain ⟨hc, hf⟩ := ext_cell hx2
                  exact rIntsG _ _ (hnd L') (by rw [hnd_length]; have := HW'.out.len; omega) w2 (hy1.reads.ext (HX_g2.out.trans hx2)) (hy2.reads.ext hx2)
                · exact fun _ _ h k => h.trans k
                have hz_g3 := hx0.size
                have hy_g3 := hx.size
                try simp at hz_g3
                try simp at hy_g3
                have hx := hx0.trans hx
                clear hx0
                have hc_g3 := (ext_cell hx).1
                have hf_g3 := (ext_cell hx).2
                have HX_g3 := Lib.hid hx
                have y_g3 := hx.size
                try simp at y_g3
                clear hx
                subst hy3
                try simp only [Act.put, List.setIfInBounds_toArray, List.set_cons_zero, List.set_cons_succ]
                refine run_pure (o := ?_) (v := ?_) (a' := ?_) ?_ ?_ ?_ ?_ ?_
                rotate_left 3
                · (simp only [List.getElem?_toArray, List.getElem?_cons_succ, List.getElem?_cons_zero] <;> rfl)
                · rfl
                · intro w'
                  go_simp
                  with_reducible rfl
                · simp only [Act.put, List.setIfInBounds_toArray, List.set_cons_zero, List.set_cons_succ]
                  rfl
                refine run_pure (o := ?_) (v := ?_) (a' := ?_) ?_ ?_ ?_ ?_ ?_
                rotate_left 3
                · (simp only [List.getElem?_toArray, List.getElem?_cons_succ, List.getElem?_cons_zero] <;> rfl)
                · rfl
                · intro w'
                  go_simp
                  with_reducible rfl
                · simp only [Act.put, List.setIfInBounds_toArray, List.set_cons_zero, List.set_cons_succ]
                  rfl
                refine run_nil (fun g4 hx => ?_)
                have hc_g4 := (ext_cell hx).1
                have hf_g4 := (ext_cell hx).2
                have HX_g4 := Lib.hid hx
                have y_g4 := hx.size
                try simp at y_g4
                clear hx
                go_wp2_with fail
                go_roundw
                case rel =>
                  have X7 := ((HX_g1.out.trans HX_g2.out).trans HX_g3.out).trans HX_g4.out
                  exact ⟨k + 1, by omega, by simp, v', u', L', nx', HW'.out, T6.out.ext X7, Q6.out.ext X7, A4.out, (X4.out.trans X6.out).trans X7⟩
                case measure => simp [intOf]; omega
      · go_wp2
        go_ret
        exact ⟨rfl, X0.out⟩
end Go.Proofs.Ytjjapblpmpidcaa
