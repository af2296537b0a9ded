import Derived.Test.YtjjapblpmpidcaaJ0
import Derived.Test.YtjjapblpmpidcaaH6
set_option linter.unusedVariables false
set_option linter.unusedSimpArgs false
namespace Go.Proofs.Ytjjapblpmpidcaa
open Go.RowKit UReg

/-! ### Acts of a table, in plain words -/
structure WT (L : List (Int × Int)) (nx : Int) : Prop where
  len : L.length ≤ 16
  lo : 0 ≤ nx
  hi : nx ≤ 2147483647
  sorted : L.Pairwise (fun a b => a.1 < b.1)
  mem : ∀ r ∈ L, 0 ≤ r.1 ∧ r.1 < nx
def layE (L : List (Int × Int)) (nx h : Int) : Int := if L.length = 16 then 5 else if h < nx ∨ 2147483647 ≤ h then 1 else 0
def layL (L : List (Int × Int)) (nx h x : Int) : List (Int × Int) := if layE L nx h = 0 then L ++ [(h, x)] else L
def layN (L : List (Int × Int)) (nx h : Int) : Int := if layE L nx h = 0 then h + 1 else nx
theorem layE_ok {L : List (Int × Int)} {nx h : Int} (h1 : L.length ≠ 16) (h2 : nx ≤ h) (h3 : h < 2147483647) : layE L nx h = 0 := by
  unfold layE
  rw [if_neg h1, if_neg (by omega)]
theorem layE_arg {L : List (Int × Int)} {nx h : Int} (h1 : L.length ≠ 16) (h2 : h < nx ∨ 2147483647 ≤ h) : layE L nx h = 1 := by
  unfold layE
  rw [if_neg h1, if_pos h2]
theorem layE_full {L : List (Int × Int)} {nx h : Int} (h1 : L.length = 16) : layE L nx h = 5 := by
  unfold layE
  rw [if_pos h1]
theorem WT.lay {L : List (Int × Int)} {nx : Int} (w : WT L nx) (h x : Int) : WT (layL L nx h x) (layN L nx h) := by
  unfold layL layN
  by_cases e : layE L nx h = 0
  · rw [if_pos e, if_pos e]
    have h1 : L.length ≠ 16 := fun c => by rw [layE_full c] at e; omega
    have h2 : ¬(h < nx ∨ 2147483647 ≤ h) := fun c => by rw [layE_arg h1 c] at e; omega
    have := w.lo; have := w.hi; have := w.len
    refine ⟨by simp; omega, by omega, by omega, ?_, ?_⟩
    · rw [List.pairwise_append]
      refine ⟨w.sorted, by simp, fun a ha b hb => ?_⟩
      rw [List.mem_singleton] at hb
      subst hb
      have := w.mem a ha
      simp only
      omega
    · intro r hr
      rw [List.mem_append, List.mem_singleton] at hr
      rcases hr with hr | rfl
      · have := w.mem r hr; omega
      · simp only; omega
  · rw [if_neg e, if_neg e]
    exact w

theorem rowInfo : (Try.prog.info? 119).map (fun i => (i.zero.map (·.cells.size), i.size, i.bytes)) = some (some 2, 2, 16) := by kernel_rfl
abbrev RT : TypeId := 119

set_option maxHeartbeats 1000000 in
theorem tNew (w : World) : Calls Try.prog 14 #[] w fun e w' => e = .returned (.pointer (some ⟨w.heap.size, 0, none⟩)) ∧ Tab RT w.heap.size w' w.heap.size (.slice none 0 0) [] 0 ∧ Ext w w' := by
  go_enter Try.func14, Try.ntmps14
  go_wp2
  go_ret
  refine ⟨rfl, ⟨own_nil _ _ _ _, ?_, by simp [Value.ownBlock], Nat.le_refl _⟩, (Ext.refl _).alloc _⟩
  exact Cells.mk2 (by go_simp <;> rfl) (by go_simp <;> rfl) (by go_simp) (by go_simp)
theorem tNext {B tb : Nat} {v : Value} {L : List (Int × Int)} {nx : Int} {w : World} (h : Tab RT B w tb v L nx) : Calls Try.prog 22 #[.pointer (some ⟨tb, 0, none⟩)] w fun e w' => e = .returned (.int .i64 nx) ∧ Ext w w' := by
  obtain ⟨c0, c1, f0, f1⟩ := h.cells.two
  clear h
  go_enter Try.func22, Try.ntmps22
  go_wp2
  go_ret
  exact ⟨rfl, Ext.refl _⟩
set_option maxHeartbeats 1000000 in
theorem tLay_full {B tb : Nat} {v : Value} {L : List (Int × Int)} {nx : Int} {w : World} (h : Tab RT B w tb v L nx) (hf : L.length = 16) (a x : Int) :
    Calls Try.prog 60 #[.pointer (some ⟨tb, 0, none⟩), .int .i64 a, .int .u64 x] w fun e w' => e = .returned (.int .i64 5) ∧ Ext w w' := by
  obtain ⟨p, cap, rfl, hcap, hcm, hcells⟩ := h.own.flat
  obtain ⟨c0, c1, f0, f1⟩ := h.cells.two
  clear h hcells hcap hcm
  rw [hf] at c0
  go_enter Try.func60, Try.ntmps60
  go_wp2
  go_ret
  exact ⟨rfl, Ext.refl _⟩
set_option maxHeartbeats 1000000 in
theorem tLay_arg {B tb : Nat} {v : Value} {L : List (Int × Int)} {nx : Int} {w : World} (h : Tab RT B w tb v L nx) (hf : L.length ≠ 16) (a x : Int) (ha : a < nx ∨ 2147483647 ≤ a) :
    Calls Try.prog 60 #[.pointer (some ⟨tb, 0, none⟩), .int .i64 a, .int .u64 x] w fun e w' => e = .returned (.int .i64 1) ∧ Ext w w' := by
  obtain ⟨p, cap, rfl, hcap, hcm, hcells⟩ := h.own.flat
  obtain ⟨c0, c1, f0, f1⟩ := h.cells.two
  clear h hcells hcap hcm
  have t1 : ((L.length : Int) == 16) = false := by simp; omega
  have t2 : decide ((L.length : Int) = 16) = false := decide_eq_false (by omega)
  clear hf
  by_cases h1 : a < nx
  · have t3 : decide (a < nx) = true := decide_eq_true h1
    clear ha
    go_enter Try.func60, Try.ntmps60
    go_wp2
    go_ret
    exact ⟨rfl, Ext.refl _⟩
  · have t3 : decide (a < nx) = false := decide_eq_false h1
    have t4 : decide (2147483647 ≤ a) = true := decide_eq_true (by omega)
    clear ha
    go_enter Try.func60, Try.ntmps60
    go_wp2
    go_ret
    exact ⟨rfl, Ext.refl _⟩
end Go.Proofs.Ytjjapblpmpidcaa
