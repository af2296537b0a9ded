import Derived.Test.YtjjapblpmpidcabR0
set_option linter.unusedVariables false
set_option linter.unusedSimpArgs false
namespace Go.Proofs.Ytjjapblpmpidcab
open Go.ChangeShapes Go.WideShapes Go.ChangeAt Go.RowKit Num

section
variable {H : Type} {enc : TypeId × Value → H} {w : World} {base : Nat} {spare : Nat → Bool} {held : Bool}
theorem cells_S {fuel : Nat} {cs : List Value} {y : DataW H × List MemPlace} (h : DataW.trod enc Try.prog w base spare held fuel 26 cs = some y) :
    ∃ s i : V, cs = [.int .u64 (hi s), .int .u64 (lo s), .int .u64 (hi i), .int .u64 (lo i)] := by
  obtain ⟨y0, y1, n, _, hl, h0, h1⟩ := trod_struct2 Try.underlying26 h
  have hc : Try.prog.cellsOf 26 = 4 := by kernel_rfl
  have hc0 : Try.prog.cellsOf 24 = 2 := by kernel_rfl
  rw [hc] at hl
  obtain ⟨c0, c1, c2, c3, rfl⟩ := list4 hl
  simp [hc0] at h0 h1
  obtain ⟨a, e0⟩ := cells_U h0
  obtain ⟨b, e1⟩ := cells_U h1
  simp only [List.cons.injEq, and_true] at e0 e1
  exact ⟨a, b, by rw [e0.1, e0.2, e1.1, e1.2]⟩
set_option maxRecDepth 100000 in
theorem open_S {r : Reach} {b0 : Nat} {v : Value} {d : DataW H} {p : List MemPlace} (hv : Value.okWide Try.prog w r b0 26 v) (h : DataW.Trod enc Try.prog w base spare held 26 v d p) :
    ∃ s i : V, v = .agg #[.int .u64 (hi s), .int .u64 (lo s), .int .u64 (hi i), .int .u64 (lo i)] := by
  obtain ⟨cs, rfl, _⟩ := okWide_struct Try.underlying26 hv
  obtain ⟨fuel, hf⟩ := h
  obtain ⟨a, c, e⟩ := cells_S hf
  refine ⟨a, c, ?_⟩
  rw [← Array.toArray_toList (xs := cs)]
  rw [show cs.toList = _ from e]
end
end Go.Proofs.Ytjjapblpmpidcab
