import Derived.Test.YtjjapblpmpidcaaJ1
set_option linter.unusedVariables false
set_option linter.unusedSimpArgs false
namespace Go.Proofs.Ytjjapblpmpidcaa
open Go.RowKit UReg

set_option maxHeartbeats 2000000 in
theorem tLay_ok {B tb : Nat} {v : Value} {L : List (Int × Int)} {nx : Int} {w : World} (h : Tab RT B w tb v L nx) (hl : L.length < 16) (a x : Int) (h0 : 0 ≤ a) (h1 : nx ≤ a) (h2 : a < 2147483647) :
    Calls Try.prog 60 #[.pointer (some ⟨tb, 0, none⟩), .int .i64 a, .int .u64 x] w fun e w' => ∃ v', e = .returned (.int .i64 0) ∧ Tab RT B w' tb v' (L ++ [(a, x)]) (a + 1) ∧ Chg tb v v' w w' := by
  obtain ⟨c0, c1, f0, f1⟩ := h.cells.two
  obtain ⟨p, cap, hv, hcap, hcm, hcells⟩ := h.own.flat
  have hb := h.base
  have hlt := h.lt
  clear hcells hcap hcm
  have t1 : ((L.length : Int) == 16) = false := by simp; omega
  have t2 : decide ((L.length : Int) = 16) = false := decide_eq_false (by omega)
  have t3 : decide (a < nx) = false := decide_eq_false (by omega)
  have t4 : decide (2147483647 ≤ a) = false := decide_eq_false (by omega)
  have k1 : IntKind.i64.wrap (a + 1) = a + 1 := IntWalk.i64_in _ (by omega)
  have hown := h.own.ext ((Ext.refl w).alloc (.cells #[.int .i64 a, .int .u64 x] RT))
  have hC := h.cells.ext ((Ext.refl w).alloc (.cells #[.int .i64 a, .int .u64 x] RT))
  have hne := Lib.hid h.ne
  subst hv
  clear h h1
  go_enter Try.func60, Try.ntmps60
  go_wp2_with (at_builtin; refine wpList_appendV (size := 2) (bytes := 16) Try.underlying111 rowInfo (by decide) (by decide) rfl (.tmp 29) (.tmp 33) rfl _ B _ L.length 1 w.heap.size 1 (rowC L) [.int .i64 a, .int .u64 x] rfl rfl hown rfl (two_new _ _ _ _ _ rfl) (by intro u hu; simp at hu; rcases hu with rfl | rfl <;> rfl) (by omega) (by simp; omega) ?_)
  intro v' w1 hown1 hg1
  have hC1 := hg1.cells hne.out hC
  have hne1 := hg1.ne hne.out (by simp; omega)
  obtain ⟨c0, c1, f0, f1⟩ := hC1.two
  have h3 : OwnP RT w1 B v' (L ++ [(a, x)]) := by
    unfold OwnP
    rw [rowC_app, List.length_append]
    exact hown1
  obtain ⟨p', cap', hv', _, _, _⟩ := h3.flat
  obtain ⟨N, hN⟩ : ∃ N, (L ++ [(a, x)]).length = N := ⟨_, rfl⟩
  rw [hN] at hv'
  have HNN := Lib.hid hN; clear hN
  subst hv'
  have HG := Lib.hid hg1
  have HO := Lib.hid h3
  have HN := Lib.hid hne1
  have zz : tb < w1.heap.size := hC1.lt
  clear hg1 hown1 hne1 hown hC t1 t2 h3
  go_wp2
  go_ret
  have hcs := (hC1.set 0 (.slice p' N cap')).set 1 (.int .i64 (a + 1))
  refine ⟨_, rfl, ⟨?_, hcs, HN.out, hb⟩, ?_⟩
  · exact (HO.out.set HN.out _).set HN.out _
  · have h4 : Chg tb _ _ w w1 := (Chg.of_ext ((Ext.refl w).alloc (.cells #[.int .i64 a, .int .u64 x] RT))).trans (Chg.grew HG.out)
    exact (h4.set 0 _).set 1 _
theorem tLay {B tb : Nat} {v : Value} {L : List (Int × Int)} {nx : Int} {w : World} (h : Tab RT B w tb v L nx) (hw : WT L nx) (a x : Int) :
    Calls Try.prog 60 #[.pointer (some ⟨tb, 0, none⟩), .int .i64 a, .int .u64 x] w fun e w' => ∃ v', e = .returned (.int .i64 (layE L nx a)) ∧ Tab RT B w' tb v' (layL L nx a x) (layN L nx a) ∧ Chg tb v v' w w' := by
  by_cases h1 : L.length = 16
  · refine (tLay_full h h1 a x).mono ?_
    rintro e w' ⟨rfl, hx⟩
    unfold layL layN
    rw [layE_full h1]
    exact ⟨v, rfl, h.ext hx, .of_ext hx⟩
  · by_cases h2 : a < nx ∨ 2147483647 ≤ a
    · refine (tLay_arg h h1 a x h2).mono ?_
      rintro e w' ⟨rfl, hx⟩
      unfold layL layN
      rw [layE_arg h1 h2]
      exact ⟨v, rfl, h.ext hx, .of_ext hx⟩
    · have e0 := layE_ok (L := L) (nx := nx) (h := a) h1 (by omega) (by omega)
      refine (tLay_ok h (by have := hw.len; omega) a x (by have := hw.lo; omega) (by omega) (by omega)).mono ?_
      rintro e w' ⟨v', rfl, hT, hC⟩
      unfold layL layN
      rw [e0]
      exact ⟨v', rfl, hT, hC⟩

/-! ### Add -/
def addE (L : List (Int × Int)) (nx : Int) : Int := if L.length = 16 then 5 else if nx = 2147483647 then 10 else 0
def addR (L : List (Int × Int)) (nx : Int) : Int := if addE L nx = 0 then nx else 0
def addL (L : List (Int × Int)) (nx x : Int) : List (Int × Int) := if addE L nx = 0 then L ++ [(nx, x)] else L
def addN (L : List (Int × Int)) (nx : Int) : Int := if addE L nx = 0 then nx + 1 else nx
theorem add_lay {L : List (Int × Int)} {nx : Int} (hw : WT L nx) (x : Int) (h : addE L nx = 0) : layE L nx nx = 0 ∧ addL L nx x = layL L nx nx x ∧ addN L nx = layN L nx nx ∧ L.length ≠ 16 ∧ nx ≠ 2147483647 := by
  have h1 : L.length ≠ 16 := fun c => by unfold addE at h; rw [if_pos c] at h; omega
  have h2 : nx ≠ 2147483647 := fun c => by unfold addE at h; rw [if_neg h1, if_pos c] at h; omega
  have e0 := layE_ok (L := L) (nx := nx) (h := nx) h1 (by omega) (by have := hw.hi; omega)
  refine ⟨e0, ?_, ?_, h1, h2⟩
  · unfold addL layL
    rw [if_pos h, if_pos e0]
  · unfold addN layN
    rw [if_pos h, if_pos e0]
theorem WT.add {L : List (Int × Int)} {nx : Int} (w : WT L nx) (x : Int) : WT (addL L nx x) (addN L nx) := by
  by_cases h : addE L nx = 0
  · obtain ⟨_, h1, h2, _⟩ := add_lay w x h
    rw [h1, h2]
    exact w.lay nx x
  · unfold addL addN
    rw [if_neg h, if_neg h]
    exact w
set_option maxHeartbeats 1000000 in
theorem tAdd {B tb : Nat} {v : Value} {L : List (Int × Int)} {nx : Int} {w : World} (h : Tab RT B w tb v L nx) (hw : WT L nx) (x : Int) :
    Calls Try.prog 58 #[.pointer (some ⟨tb, 0, none⟩), .int .u64 x] w fun e w' => ∃ v', e = .returned (.tuple #[.int .i64 (addR L nx), .int .i64 (addE L nx)]) ∧ Tab RT B w' tb v' (addL L nx x) (addN L nx) ∧ Chg tb v v' w w' := by
  obtain ⟨c0, c1, f0, f1⟩ := h.cells.two
  obtain ⟨p, cap, hv, hcap, hcm, hcells⟩ := h.own.flat
  clear hcells hcap hcm
  by_cases h1 : L.length = 16
  · have e0 : addE L nx = 5 := by unfold addE; rw [if_pos h1]
    have e1 : addR L nx = 0 ∧ addL L nx x = L ∧ addN L nx = nx := by
      unfold addR addL addN
      rw [e0]
      exact ⟨rfl, rfl, rfl⟩
    rw [e0, e1.1, e1.2.1, e1.2.2]
    have HT := Lib.hid h
    subst hv
    rw [h1] at c0 ⊢
    clear h hw e0 e1
    go_enter Try.func58, Try.ntmps58
    go_wp2
    go_ret2
    rw [← h1]
    exact ⟨_, rfl, HT.out, .of_ext (Ext.refl _)⟩
  · have t1 : ((L.length : Int) == 16) = false := by simp; omega
    have t2 : decide ((L.length : Int) = 16) = false := decide_eq_false (by omega)
    by_cases h2 : nx = 2147483647
    · have e0 : addE L nx = 10 := by unfold addE; rw [if_neg h1, if_pos h2]
      have e1 : addR L nx = 0 ∧ addL L nx x = L ∧ addN L nx = nx := by
        unfold addR addL addN
        rw [e0]
        exact ⟨rfl, rfl, rfl⟩
      rw [e0, e1.1, e1.2.1, e1.2.2]
      have HT := Lib.hid h
      subst hv h2
      clear h hw e0 e1
      go_enter Try.func58, Try.ntmps58
      go_wp2
      go_ret2
      exact ⟨_, rfl, HT.out, .of_ext (Ext.refl _)⟩
    · have t3 : (nx == 2147483647) = false := by simp; omega
      have t4 : decide (nx = 2147483647) = false := decide_eq_false h2
      have e0 : addE L nx = 0 := by unfold addE; rw [if_neg h1, if_neg h2]
      obtain ⟨a0, a1, a2, _⟩ := add_lay hw x e0
      have a3 : addR L nx = nx := by unfold addR; rw [if_pos e0]
      have HL := Lib.hid (tLay h hw nx x)
      rw [e0, a1, a2, a3]
      rw [a0] at HL
      subst hv
      clear h hw e0 a0 a1 a2 a3 h2
      go_enter Try.func58, Try.ntmps58
      go_wp2_with fail
      refine HL.out.mono ?_
      rintro e w1 ⟨v', rfl, hT, hC⟩
      have hT := Lib.hid hT
      have hC := Lib.hid hC
      go_wp2
      go_ret2
      exact ⟨v', rfl, hT.out, hC.out⟩

/-! ### Goes -/
def goE (nx h : Int) : Int := if h < nx ∨ 2147483647 < h then 1 else 0
def goN (nx h : Int) : Int := if goE nx h = 0 then h else nx
theorem WT.goes {L : List (Int × Int)} {nx : Int} (w : WT L nx) (h : Int) : WT L (goN nx h) := by
  unfold goN
  by_cases e : goE nx h = 0
  · rw [if_pos e]
    have h1 : ¬(h < nx ∨ 2147483647 < h) := fun c => by unfold goE at e; rw [if_pos c] at e; omega
    have := w.lo
    exact ⟨w.len, by omega, by omega, w.sorted, fun r hr => by have := w.mem r hr; omega⟩
  · rw [if_neg e]
    exact w
set_option maxHeartbeats 1000000 in
theorem tGoes {B tb : Nat} {v : Value} {L : List (Int × Int)} {nx : Int} {w : World} (h : Tab RT B w tb v L nx) (a : Int) :
    Calls Try.prog 61 #[.pointer (some ⟨tb, 0, none⟩), .int .i64 a] w fun e w' => e = .returned (.int .i64 (goE nx a)) ∧ Tab RT B w' tb v L (goN nx a) ∧ Chg tb v v w w' := by
  obtain ⟨c0, c1, f0, f1⟩ := h.cells.two
  have HT := Lib.hid h
  unfold goN
  by_cases h1 : a < nx ∨ 2147483647 < a
  · have e0 : goE nx a = 1 := by unfold goE; rw [if_pos h1]
    rw [e0]
    have q : (decide (a < nx) = true) ∨ (decide (a < nx) = false ∧ decide (2147483647 < a) = true) := by
      by_cases h : a < nx
      · exact .inl (decide_eq_true h)
      · exact .inr ⟨decide_eq_false h, decide_eq_true (by omega)⟩
    clear h h1 e0
    rcases q with q | ⟨q, q2⟩
    all_goals
      go_enter Try.func61, Try.ntmps61
      go_wp2
      go_ret
      exact ⟨rfl, HT.out, .of_ext (Ext.refl _)⟩
  · have e0 : goE nx a = 0 := by unfold goE; rw [if_neg h1]
    rw [e0]
    have t1 : decide (a < nx) = false := decide_eq_false (by omega)
    have t2 : decide (2147483647 < a) = false := decide_eq_false (by omega)
    clear h h1 e0
    go_enter Try.func61, Try.ntmps61
    go_wp2
    go_ret
    exact ⟨rfl, ⟨HT.out.own.set HT.out.ne _, HT.out.cells.set 1 _, HT.out.ne, HT.out.base⟩, (Chg.of_ext (Ext.refl w)).set 1 _⟩
end Go.Proofs.Ytjjapblpmpidcaa
