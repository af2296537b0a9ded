import Derived.Test.YtjjapblpmpidcaaR0
import Derived.Test.YtjjapblpmpidcaaH3
set_option linter.unusedVariables false
set_option linter.unusedSimpArgs false
namespace Go.Proofs.Ytjjapblpmpidcaa
open Go.ChangeShapes Go.WideShapes Go.ChangeAt Go.RowKit Num

theorem list5 {α : Type} {cs : List α} (h : cs.length = 5) : ∃ c0 c1 c2 c3 c4, cs = [c0, c1, c2, c3, c4] := by
  match cs, h with
  | [c0, c1, c2, c3, c4], _ => exact ⟨c0, c1, c2, c3, c4, rfl⟩
section
variable {H : Type} {enc : TypeId × Value → H} {w : World} {base : Nat} {spare : Nat → Bool} {held : Bool}
theorem w32_wf {n : Int} (h : (Lit.int .u32 n).wf = true) : W32 n := by
  have := bounds_u32 h
  unfold W32
  omega
theorem cells_K {fuel : Nat} {cs : List Value} {y : DataW H × List MemPlace} (h : DataW.trod enc Try.prog w base spare held fuel 86 cs = some y) :
    ∃ a b : Int, WK (a, b) ∧ cs = [.int .u32 a, .int .u32 b] := by
  obtain ⟨xs, n, _, _, hl, hx, hf⟩ := DataW.trod_array Try.underlying86 h
  have hc : Try.prog.cellsOf 86 = 2 := by kernel_rfl
  have hc0 : Try.prog.cellsOf 84 = 1 := by kernel_rfl
  rw [hc] at hl
  obtain ⟨c0, c1, rfl⟩ := list2 hl
  obtain ⟨x0, x1, rfl⟩ := list2 hx
  have h0 := hf 0 (by omega)
  have h1 := hf 1 (by omega)
  simp [hc0] at h0 h1
  obtain ⟨a, e0, _, wa⟩ := DataW.trod_int Try.underlying84 h0
  obtain ⟨b, e1, _, wb⟩ := DataW.trod_int Try.underlying84 h1
  rw [List.cons.injEq] at e0 e1
  exact ⟨a, b, ⟨w32_wf wa, w32_wf wb⟩, by rw [e0.1, e1.1]⟩
theorem cells_H {fuel : Nat} {cs : List Value} {y : DataW H × List MemPlace} (h : DataW.trod enc Try.prog w base spare held fuel 88 cs = some y) :
    ∃ (c : V) (k0 k1 : Int) (b : Bool), WK (k0, k1) ∧ cs = [.int .u64 (hi c), .int .u64 (lo c), .int .u32 k0, .int .u32 k1, .bool b] := by
  obtain ⟨xs, n, _, _, hl, hx, hf⟩ := DataW.trod_struct Try.underlying88 h
  have hc : Try.prog.cellsOf 88 = 5 := by kernel_rfl
  have hc0 : Try.prog.cellsOf 54 = 2 := by kernel_rfl
  have hc1 : Try.prog.cellsOf 86 = 2 := by kernel_rfl
  have hc2 : Try.prog.cellsOf 4 = 1 := by kernel_rfl
  rw [hc] at hl
  obtain ⟨c0, c1, c2, c3, c4, rfl⟩ := list5 hl
  have h0 := hf 0 _ rfl
  have h1 := hf 1 _ rfl
  have h2 := hf 2 _ rfl
  simp [hc0] at h0
  simp [hc1] at h1
  simp [hc2] at h2
  match xs, hx with
  | [x0, x1, x2], _ =>
    obtain ⟨c, e0⟩ := cells_U h0
    obtain ⟨k0, k1, wk, e1⟩ := cells_K h1
    obtain ⟨b, e2, _⟩ := DataW.trod_bool Try.underlying4 h2
    simp only [List.cons.injEq, and_true] at e0 e1 e2
    exact ⟨c, k0, k1, b, wk, by rw [e0.1, e0.2, e1.1, e1.2, e2]⟩
set_option maxRecDepth 100000 in
theorem open_H {r : Reach} {b0 : Nat} {v : Value} {d : DataW H} {p : List MemPlace} (hv : Value.okWide Try.prog w r b0 88 v) (h : DataW.Trod enc Try.prog w base spare held 88 v d p) :
    ∃ (c : V) (k0 k1 : Int) (b : Bool) (_ : WK (k0, k1)), v = .agg #[.int .u64 (hi c), .int .u64 (lo c), .int .u32 k0, .int .u32 k1, .bool b] := by
  obtain ⟨cs, rfl, _⟩ := okWide_struct Try.underlying88 hv
  obtain ⟨fuel, hf⟩ := h
  obtain ⟨c, k0, k1, b, wk, e⟩ := cells_H hf
  refine ⟨c, k0, k1, b, wk, ?_⟩
  rw [← Array.toArray_toList (xs := cs)]
  rw [show cs.toList = _ from e]
end
end Go.Proofs.Ytjjapblpmpidcaa
