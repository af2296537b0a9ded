import Derived.Test.YtjjapblpmpidcabR0
import Derived.ChangeSlices
set_option linter.unusedVariables false
set_option linter.unusedSimpArgs false
namespace Go.Proofs.Ytjjapblpmpidcab
open Go.ChangeShapes Go.WideShapes Go.ChangeAt Go.RowKit Num

/-- v is a slice of bytes, nil or not, wherever it lies. -/
def BytesArg (w : World) (v : Value) : Prop := v = .slice none 0 0 ∨
  ∃ (a : Addr) (L cap : Nat) (zs : List Int), v = .slice (some a) L cap ∧ L ≤ zs.length ∧ L ≤ 140737488355328 ∧ (∀ i, i < zs.length → w.cell? (a.add i) = some (.int .u8 (zs.getD i 0))) ∧ (∀ n ∈ zs, (Lit.int .u8 n).wf = true)
section
variable {H : Type} {enc : TypeId × Value → H} {w : World} {base : Nat} {held : Bool}
set_option maxRecDepth 100000 in
theorem open_bytes {r : Reach} {b0 : Nat} {v : Value} {d : DataW H} {p : List MemPlace} (hv : Value.okWide Try.prog w r b0 60 v) (h : DataW.Trod enc Try.prog w base (fun _ => true) held 60 v d p)
    (hs : ∀ el sp, d = .slice el sp → el.length ≤ 140737488355328) : BytesArg w v := by
  obtain ⟨a0, l0, c0, rfl⟩ := okWide_slice Try.underlying60 hv
  obtain ⟨fuel, hf⟩ := h
  rcases open_ints Try.underlying60 Try.underlying5 (by kernel_rfl) hf with ⟨hcs, _⟩ | ⟨a, len, cap, zs, hcs, hb, hl, hm, hz, hx, hcell, hwf⟩
  · simp [Value.cells] at hcs
    obtain ⟨rfl, rfl, rfl⟩ := hcs
    exact .inl rfl
  · simp [Value.cells] at hcs
    obtain ⟨rfl, rfl, rfl⟩ := hcs
    simp only [Prod.mk.injEq] at hx
    simp only [if_true] at hz
    have h1 := hs _ _ hx.1
    simp only [lits, List.length_map, List.length_take] at h1
    exact .inr ⟨a, l0, c0, zs, rfl, by omega, by omega, hcell, hwf⟩
end
end Go.Proofs.Ytjjapblpmpidcab
