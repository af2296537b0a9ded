import Derived.Test.YtjjapblpmpidcaaJ8
set_option linter.unusedVariables false
set_option linter.unusedSimpArgs false
namespace Go.Proofs.Ytjjapblpmpidcaa
open Go.RowKit UReg

/-! ### The reference's table: Lay, Add, Goes -/
abbrev QT : TypeId := 115
theorem qrowInfo : (Try.prog.info? QT).map (fun i => (i.zero.map (·.cells.size), i.size, i.bytes)) = some (some 2, 2, 16) := by kernel_rfl
section
variable {ops : Array Oper} {rest : List Oper} {o : Oper} {a : Act} {Q : Exit → Act → World → Prop}
theorem wpList_appendP {t e : TypeId} (hu : Try.prog.underlying t = some (.slice e)) (info : (Try.prog.info? e).map (fun i => (i.zero.map (·.cells.size), i.size, i.bytes)) = some (some 2, 2, 16)) (hgd : o.guard = none) (s x : Operand)
    (ho : o.op = .call { callee := .builtin .append, args := #[s, x], argTypes := #[t, t] }) (W : World) (base B : Nat) (acc xv : Value) (M L : List (Int × Int))
    (hs : a.eval s = acc) (hx : a.eval x = xv) (hown : OwnP e W base acc M) (hrd : OwnP e W B xv L) (hl : M.length + L.length ≤ 100000) (hbW : base ≤ W.heap.size)
    (h : ∀ v' w', OwnP e w' base v' (M ++ L) → Grew W w' acc v' → wpList Try.prog ops Q rest (a.put o.dst v') w') : wpList Try.prog ops Q (o :: rest) a W := by
  rcases hrd.2 with ⟨rfl, hz⟩ | ⟨g, cap, cur, rfl, _, hh, _⟩
  · obtain ⟨i0, hinfo, hp⟩ : ∃ i0, Try.prog.info? e = some i0 ∧ (i0.zero.map (·.cells.size), i0.size, i0.bytes) = (some 2, 2, 16) := by
      cases hi : Try.prog.info? e with
      | none => rw [hi] at info; cases info
      | some i0 => rw [hi] at info; exact ⟨i0, rfl, Option.some.inj info⟩
    have hL : L = [] := List.eq_nil_of_length_eq_zero hz
    subst hL
    refine wpList_append_own_none hgd s x t ho base e i0 2 hu hinfo _ M.length (rowC M) hs hown hx ?_
    refine h _ _ ?_ ⟨rfl, rfl, rfl, Nat.le_refl _, fun _ _ _ => rfl, .inl rfl⟩
    rw [List.append_nil]
    exact hown
  · refine wpList_appendV (size := 2) (bytes := 16) hu info (by decide) (by decide) hgd s x ho W base acc M.length L.length g cap (rowC M) (rowC L) hs hx hown (rowC_length L) (hrd.cells (g := g) rfl) (rowC_one L) hl hbW fun v' w' h1 h2 => h v' w' ?_ h2
    unfold OwnP
    rw [rowC_app, List.length_append]
    exact h1
end
set_option maxHeartbeats 2000000 in
theorem qLay_ok {B tb : Nat} {v : Value} {L : List (Int × Int)} {nx : Int} {w : World} (h : Tab QT B w tb v L nx) (hl : L.length < 16) (a x : Int) (h0 : 0 ≤ a) (h1 : nx ≤ a) (h2 : a < 2147483647) :
    Calls Try.prog 18 #[.pointer (some ⟨tb, 0, none⟩), .int .i64 a, .int .u64 x] w fun e w' => ∃ v', e = .returned (.int .i64 0) ∧ Tab QT B w' tb v' (L ++ [(a, x)]) (a + 1) ∧ Chg tb v v' w w' := by
  obtain ⟨c0, c1, f0, f1⟩ := h.cells.two
  obtain ⟨p, cap, hv, _, _, _⟩ := h.own.flat
  have hb := h.base
  have hlt := h.lt
  have t1 : decide (16 ≤ (L.length : Int)) = false := decide_eq_false (by omega)
  have t3 : decide (a < nx) = false := decide_eq_false (by omega)
  have t4 : decide (2147483647 ≤ a) = false := decide_eq_false (by omega)
  have k1 : IntKind.i64.wrap (a + 1) = a + 1 := IntWalk.i64_in _ (by omega)
  have hl0 := OwnP.lit QT w w.heap.size (Nat.le_refl _)
  have hown := Lib.hid (h.own.ext ((Ext.refl w).alloc (.cells #[] QT)))
  have hC := Lib.hid (h.cells.ext ((Ext.refl w).alloc (.cells #[] QT)))
  have HT := Lib.hid h
  subst hv
  clear h h1
  go_enter Try.func18, Try.ntmps18
  go_wp2_with (at_builtin; refine wpList_appendP Try.underlying28 qrowInfo rfl (.tmp 24) (.tmp 28) rfl _ w.heap.size B _ _ [] L rfl rfl hl0 hown.out (by simp; omega) (by simp) ?_)
  intro v1 w1 hown1 hg1
  have hne1 : (Value.slice (some ⟨w.heap.size, 0, none⟩) 0 0).ownBlock ≠ some tb := by simp [Value.ownBlock]; omega
  have hC1 := hg1.cells hne1 hC.out
  have X1 := Lib.hid (hg1.ext ((Ext.refl w).alloc (.cells #[] QT)) (fun g hg => by simp [Value.ownBlock] at hg; omega))
  have hg1 := Lib.hid hg1
  have hown2 := hown1.ext ((Ext.refl w1).alloc (.cells #[.int .i64 a, .int .u64 x] QT))
  have hC2 := hC1.ext ((Ext.refl w1).alloc (.cells #[.int .i64 a, .int .u64 x] QT))
  obtain ⟨c0, c1, f0, f1⟩ := hC1.two
  have zz := hC1.lt
  have z1 := X1.out.size
  have hne2 := fun g (hg : v1.ownBlock = some g) => hown1.ge g hg
  have hnt1 : v1.ownBlock ≠ some tb := fun e => by have := hne2 _ e; omega
  have HNE2 := Lib.hid hne2
  have hlen : (L ++ []).length = L.length := by simp
  clear hown1 hl0 hne2
  go_wp2_with (at_builtin; refine wpList_appendV (size := 2) (bytes := 16) Try.underlying28 qrowInfo (by decide) (by decide) rfl (.tmp 29) (.tmp 33) rfl _ w.heap.size _ L.length 1 w1.heap.size 1 (rowC L) [.int .i64 a, .int .u64 x] rfl rfl hown2 rfl (two_new _ _ _ _ _ rfl) (by intro u hu; simp at hu; rcases hu with rfl | rfl <;> rfl) (by omega) (by simp; omega) ?_)
  intro v2 w2 hown3 hg2
  have hC3 := hg2.cells hnt1 hC2
  have hnt2 := hg2.ne hnt1 (by simp; omega)
  have X2 := Lib.hid (hg2.ext (X1.out.alloc (.cells #[.int .i64 a, .int .u64 x] QT)) HNE2.out)
  have h3 : OwnP QT w2 w.heap.size v2 (L ++ [(a, x)]) := by
    unfold OwnP
    rw [rowC_app, List.length_append]
    exact hown3
  obtain ⟨p', cap', hv', _, _, _⟩ := h3.flat
  obtain ⟨N, hN⟩ : ∃ N, (L ++ [(a, x)]).length = N := ⟨_, rfl⟩
  rw [hN] at hv'
  have HNN := Lib.hid hN; clear hN
  subst hv'
  have HO := Lib.hid h3
  have HN := Lib.hid hnt2
  obtain ⟨c0, c1, f0, f1⟩ := hC3.two
  have zz2 : tb < w2.heap.size := hC3.lt
  clear hg2 hown3 h3 hown2 hC1 hC2 hnt1 hnt2 HNE2 t1
  go_wp2
  go_ret
  have hcs := (hC3.set 0 (.slice p' N cap')).set 1 (.int .i64 (a + 1))
  refine ⟨_, rfl, ⟨?_, hcs, HN.out, hb⟩, ?_⟩
  · exact ((HO.out.mono (Nat.le_trans hb (by omega))).set HN.out _).set HN.out _
  · have h4 : Chg tb (.slice p L.length cap) (.slice p' N cap') w w2 := ⟨X2.out.os, X2.out.tape, X2.out.output, X2.out.size, fun k hk _ _ => X2.out.block k hk, .inr HO.out.ge⟩
    exact (h4.set 0 _).set 1 _
set_option maxHeartbeats 1000000 in
theorem qLay_full {B tb : Nat} {v : Value} {L : List (Int × Int)} {nx : Int} {w : World} (h : Tab QT B w tb v L nx) (hf : L.length = 16) (a x : Int) :
    Calls Try.prog 18 #[.pointer (some ⟨tb, 0, none⟩), .int .i64 a, .int .u64 x] w fun e w' => e = .returned (.int .i64 5) ∧ Ext w w' := by
  obtain ⟨p, cap, rfl, hcap, hcm, hcells⟩ := h.own.flat
  obtain ⟨c0, c1, f0, f1⟩ := h.cells.two
  clear h hcells hcap hcm
  rw [hf] at c0
  go_enter Try.func18, Try.ntmps18
  go_wp2
  go_ret
  exact ⟨rfl, Ext.refl _⟩
set_option maxHeartbeats 1000000 in
theorem qLay_arg {B tb : Nat} {v : Value} {L : List (Int × Int)} {nx : Int} {w : World} (h : Tab QT B w tb v L nx) (hf : L.length < 16) (a x : Int) (ha : a < nx ∨ 2147483647 ≤ a) :
    Calls Try.prog 18 #[.pointer (some ⟨tb, 0, none⟩), .int .i64 a, .int .u64 x] w fun e w' => e = .returned (.int .i64 1) ∧ Ext w w' := by
  obtain ⟨p, cap, rfl, hcap, hcm, hcells⟩ := h.own.flat
  obtain ⟨c0, c1, f0, f1⟩ := h.cells.two
  clear h hcells hcap hcm
  have t2 : decide (16 ≤ (L.length : Int)) = false := decide_eq_false (by omega)
  clear hf
  by_cases h1 : a < nx
  · have t3 : decide (a < nx) = true := decide_eq_true h1
    clear ha
    go_enter Try.func18, Try.ntmps18
    go_wp2
    go_ret
    exact ⟨rfl, Ext.refl _⟩
  · have t3 : decide (a < nx) = false := decide_eq_false h1
    have t4 : decide (2147483647 ≤ a) = true := decide_eq_true (by omega)
    clear ha
    go_enter Try.func18, Try.ntmps18
    go_wp2
    go_ret
    exact ⟨rfl, Ext.refl _⟩
theorem qLay {B tb : Nat} {v : Value} {L : List (Int × Int)} {nx : Int} {w : World} (h : Tab QT B w tb v L nx) (hw : WT L nx) (a x : Int) :
    Calls Try.prog 18 #[.pointer (some ⟨tb, 0, none⟩), .int .i64 a, .int .u64 x] w fun e w' => ∃ v', e = .returned (.int .i64 (layE L nx a)) ∧ Tab QT B w' tb v' (layL L nx a x) (layN L nx a) ∧ Chg tb v v' w w' := by
  have hl := hw.len
  by_cases h1 : L.length = 16
  · refine (qLay_full h h1 a x).mono ?_
    rintro e w' ⟨rfl, hx⟩
    unfold layL layN
    rw [layE_full h1]
    exact ⟨v, rfl, h.ext hx, .of_ext hx⟩
  · by_cases h2 : a < nx ∨ 2147483647 ≤ a
    · refine (qLay_arg h (by omega) a x h2).mono ?_
      rintro e w' ⟨rfl, hx⟩
      unfold layL layN
      rw [layE_arg h1 h2]
      exact ⟨v, rfl, h.ext hx, .of_ext hx⟩
    · have e0 := layE_ok (L := L) (nx := nx) (h := a) h1 (by omega) (by omega)
      refine (qLay_ok h (by omega) a x (by have := hw.lo; omega) (by omega) (by omega)).mono ?_
      rintro e w' ⟨v', rfl, hT, hC⟩
      unfold layL layN
      rw [e0]
      exact ⟨v', rfl, hT, hC⟩
set_option maxHeartbeats 1000000 in
theorem qAdd {B tb : Nat} {v : Value} {L : List (Int × Int)} {nx : Int} {w : World} (h : Tab QT B w tb v L nx) (hw : WT L nx) (x : Int) :
    Calls Try.prog 16 #[.pointer (some ⟨tb, 0, none⟩), .int .u64 x] w fun e w' => ∃ v', e = .returned (.tuple #[.int .i64 (addR L nx), .int .i64 (addE L nx)]) ∧ Tab QT B w' tb v' (addL L nx x) (addN L nx) ∧ Chg tb v v' w w' := by
  obtain ⟨c0, c1, f0, f1⟩ := h.cells.two
  obtain ⟨p, cap, hv, hcap, hcm, hcells⟩ := h.own.flat
  have hl := hw.len
  have hn := hw.hi
  clear hcells hcap hcm
  by_cases h1 : L.length = 16
  · have e0 : addE L nx = 5 := by unfold addE; rw [if_pos h1]
    have e1 : addR L nx = 0 ∧ addL L nx x = L ∧ addN L nx = nx := by
      unfold addR addL addN
      rw [e0]
      exact ⟨rfl, rfl, rfl⟩
    rw [e0, e1.1, e1.2.1, e1.2.2]
    have HT := Lib.hid h
    subst hv
    rw [h1] at c0 ⊢
    clear h hw e0 e1 hl
    go_enter Try.func16, Try.ntmps16
    go_wp2
    go_ret2
    rw [← h1]
    exact ⟨_, rfl, HT.out, .of_ext (Ext.refl _)⟩
  · have t2 : decide (16 ≤ (L.length : Int)) = false := decide_eq_false (by omega)
    by_cases h2 : nx = 2147483647
    · have e0 : addE L nx = 10 := by unfold addE; rw [if_neg h1, if_pos h2]
      have e1 : addR L nx = 0 ∧ addL L nx x = L ∧ addN L nx = nx := by
        unfold addR addL addN
        rw [e0]
        exact ⟨rfl, rfl, rfl⟩
      rw [e0, e1.1, e1.2.1, e1.2.2]
      have HT := Lib.hid h
      subst hv h2
      clear h hw e0 e1
      go_enter Try.func16, Try.ntmps16
      go_wp2
      go_ret2
      exact ⟨_, rfl, HT.out, .of_ext (Ext.refl _)⟩
    · have t4 : decide (2147483647 ≤ nx) = false := decide_eq_false (by omega)
      have e0 : addE L nx = 0 := by unfold addE; rw [if_neg h1, if_neg h2]
      obtain ⟨a0, a1, a2, _⟩ := add_lay hw x e0
      have a3 : addR L nx = nx := by unfold addR; rw [if_pos e0]
      have HL := Lib.hid (qLay h hw nx x)
      rw [e0, a1, a2, a3]
      rw [a0] at HL
      subst hv
      clear h hw e0 a0 a1 a2 a3 h2 hn
      go_enter Try.func16, Try.ntmps16
      go_wp2_with fail
      refine HL.out.mono ?_
      rintro e w1 ⟨v', rfl, hT, hC⟩
      have hT := Lib.hid hT
      have hC := Lib.hid hC
      go_wp2
      go_ret2
      exact ⟨v', rfl, hT.out, hC.out⟩
set_option maxHeartbeats 1000000 in
theorem qGoes {B tb : Nat} {v : Value} {L : List (Int × Int)} {nx : Int} {w : World} (h : Tab QT B w tb v L nx) (a : Int) :
    Calls Try.prog 19 #[.pointer (some ⟨tb, 0, none⟩), .int .i64 a] w fun e w' => e = .returned (.int .i64 (goE nx a)) ∧ Tab QT B w' tb v L (goN nx a) ∧ Chg tb v v w w' := by
  obtain ⟨c0, c1, f0, f1⟩ := h.cells.two
  have HT := Lib.hid h
  unfold goN
  by_cases h1 : a < nx ∨ 2147483647 < a
  · have e0 : goE nx a = 1 := by unfold goE; rw [if_pos h1]
    rw [e0]
    have q : (decide (a < nx) = true) ∨ (decide (a < nx) = false ∧ decide (2147483647 < a) = true) := by
      by_cases h : a < nx
      · exact .inl (decide_eq_true h)
      · exact .inr ⟨decide_eq_false h, decide_eq_true (by omega)⟩
    clear h h1 e0
    rcases q with q | ⟨q, q2⟩
    all_goals
      go_enter Try.func19, Try.ntmps19
      go_wp2
      go_ret
      exact ⟨rfl, HT.out, .of_ext (Ext.refl _)⟩
  · have e0 : goE nx a = 0 := by unfold goE; rw [if_neg h1]
    rw [e0]
    have t1 : decide (a < nx) = false := decide_eq_false (by omega)
    have t2 : decide (2147483647 < a) = false := decide_eq_false (by omega)
    clear h h1 e0
    go_enter Try.func19, Try.ntmps19
    go_wp2
    go_ret
    exact ⟨rfl, ⟨HT.out.own.set HT.out.ne _, HT.out.cells.set 1 _, HT.out.ne, HT.out.base⟩, (Chg.of_ext (Ext.refl w)).set 1 _⟩
end Go.Proofs.Ytjjapblpmpidcaa
