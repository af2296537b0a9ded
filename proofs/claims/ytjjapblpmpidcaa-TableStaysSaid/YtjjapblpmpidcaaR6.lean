import Derived.Test.YtjjapblpmpidcaaR5
set_option linter.unusedVariables false
set_option linter.unusedSimpArgs false
namespace Go.Proofs.Ytjjapblpmpidcaa
open Go.ChangeShapes Go.WideShapes Go.ChangeAt Go.RowKit Num

/-- v is a slice of acts, and each number is one of its kind. -/
def ActW (w : World) (v : Value) : Prop := ∃ (p : Option Addr) (n cap : Nat) (A : Nat → Int × Int × Int), v = .slice p n cap ∧ n ≤ maxLen ∧ ∀ i, i < n → ∃ a, p = some a ∧ ActAt w (a.add (i * 3)) (A i) ∧ (Lit.int .i64 (A i).2.1).wf = true ∧ (Lit.int .u64 (A i).2.2).wf = true
section
variable {H : Type} {enc : TypeId × Value → H} {w : World} {base : Nat} {held : Bool}
theorem cells_actw {spare : Nat → Bool} {fuel : Nat} {cs : List Value} {y : DataW H × List MemPlace} (h : DataW.trod enc Try.prog w base spare held fuel 32 cs = some y) :
    ∃ d a x : Int, cs = [.int .i64 d, .int .i64 a, .int .u64 x] ∧ (Lit.int .i64 a).wf = true ∧ (Lit.int .u64 x).wf = true := by
  obtain ⟨xs, n, _, _, hl, hx, hf⟩ := DataW.trod_struct Try.underlying32 h
  have hc : Try.prog.cellsOf 32 = 3 := by kernel_rfl
  have hc0 : Try.prog.cellsOf 3 = 1 := by kernel_rfl
  have hc1 : Try.prog.cellsOf 26 = 1 := by kernel_rfl
  rw [hc] at hl
  obtain ⟨c0, c1, c2, rfl⟩ := list3 hl
  have h0 := hf 0 _ rfl
  have h1 := hf 1 _ rfl
  have h2 := hf 2 _ rfl
  simp [hc0] at h0 h1
  simp [hc1] at h2
  match xs, hx with
  | [x0, x1, x2], _ =>
    obtain ⟨d, e0, _, _⟩ := DataW.trod_int Try.underlying3 h0
    obtain ⟨a, e1, _, wa⟩ := DataW.trod_int Try.underlying3 h1
    obtain ⟨x, e2, _, wx⟩ := DataW.trod_int Try.underlying26 h2
    simp only [List.cons.injEq, and_true] at e0 e1 e2
    exact ⟨d, a, x, by rw [e0, e1, e2], wa, wx⟩
set_option maxRecDepth 100000 in
theorem open_actsw {r : Reach} {b0 : Nat} {v : Value} {d : DataW H} {p : List MemPlace} (hv : Value.okWide Try.prog w r b0 22 v) (h : DataW.Trod enc Try.prog w base (fun _ => true) held 22 v d p) : ActW w v := by
  obtain ⟨a0, l0, c0, rfl⟩ := okWide_slice Try.underlying22 hv
  obtain ⟨fuel, hf⟩ := h
  have hc : Try.prog.cellsOf 32 = 3 := by kernel_rfl
  rcases Go.Deep.open_slice Try.underlying22 hf with ⟨hcs, _⟩ | ⟨a, len, cap, m, n, D, Pl, hcs, _, hl, hm, hmm, _, hx⟩
  · simp [Value.cells] at hcs
    obtain ⟨rfl, rfl, rfl⟩ := hcs
    exact ⟨none, 0, 0, fun _ => (0, 0, 0), rfl, by unfold maxLen; omega, fun i hi => by omega⟩
  · simp [Value.cells] at hcs
    obtain ⟨rfl, rfl, rfl⟩ := hcs
    have hR : ∀ i, i < l0 → ∃ x : Int × Int × Int, ActAt w (a.add (i * 3)) x ∧ (Lit.int .i64 x.2.1).wf = true ∧ (Lit.int .u64 x.2.2).wf = true := by
      intro i hi
      obtain ⟨cs', h1, h2⟩ := hx i (by rw [hmm]; simp; omega)
      rw [hc] at h1
      obtain ⟨_, _, h3⟩ := World.cells?_some h1
      obtain ⟨d, b, x, rfl, wb, wx⟩ := cells_actw h2
      refine ⟨(d, b, x), ⟨?_, ?_, ?_⟩, wb, wx⟩
      · have := h3 0 (by omega)
        rw [show (a.add (i * 3)).add 0 = a.add (i * 3) from by simp [Addr.add] <;> split <;> simp_all] at this
        simpa using this
      · simpa using h3 1 (by omega)
      · simpa using h3 2 (by omega)
    obtain ⟨A, hA⟩ := choice hR
    exact ⟨some a, l0, c0, A, rfl, by omega, fun i hi => ⟨a, rfl, hA i hi⟩⟩
end
end Go.Proofs.Ytjjapblpmpidcaa
