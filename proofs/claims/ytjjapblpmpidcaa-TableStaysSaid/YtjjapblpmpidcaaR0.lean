import Derived.Test.YtjjapblpmpidcaaRows
import Derived.Test.YtjjapblpmpidcaaB
import Derived.WalkKit
import Derived.ProofKit
import Derived.OpenShut
import Derived.ChangeOld
import Derived.Below
import Derived.SizedLaws
set_option linter.unusedVariables false
set_option linter.unusedSimpArgs false
namespace Go.Proofs.Ytjjapblpmpidcaa
open Go.ChangeShapes Go.WideShapes Go.ChangeAt Go.RowKit Num

theorem list2 {α : Type} {cs : List α} (h : cs.length = 2) : ∃ c0 c1, cs = [c0, c1] := by
  match cs, h with
  | [c0, c1], _ => exact ⟨c0, c1, rfl⟩
theorem list4 {α : Type} {cs : List α} (h : cs.length = 4) : ∃ c0 c1 c2 c3, cs = [c0, c1, c2, c3] := by
  match cs, h with
  | [c0, c1, c2, c3], _ => exact ⟨c0, c1, c2, c3, rfl⟩
theorem toU {a b : Int} (ha : Word a) (hb : Word b) : ∃ x : V, [Value.int .u64 a, Value.int .u64 b] = [.int .u64 (hi x), .int .u64 (lo x)] :=
  ⟨mk a b, by rw [hi_mk a b ha hb, lo_mk a b ha hb]⟩

section
variable {H : Type} {enc : TypeId × Value → H} {w : World} {base : Nat} {spare : Nat → Bool} {held : Bool}
theorem word_wf {n : Int} (h : (Lit.int .u64 n).wf = true) : Word n := by
  have := bounds_u64 h
  unfold Word
  omega
theorem cells_U {fuel : Nat} {cs : List Value} {y : DataW H × List MemPlace} (h : DataW.trod enc Try.prog w base spare held fuel 54 cs = some y) :
    ∃ x : V, cs = [.int .u64 (hi x), .int .u64 (lo x)] := by
  obtain ⟨y0, y1, n, _, hl, h0, h1⟩ := trod_struct2 Try.underlying54 h
  have hc : Try.prog.cellsOf 54 = 2 := by kernel_rfl
  have hc0 : Try.prog.cellsOf 26 = 1 := by kernel_rfl
  rw [hc] at hl
  obtain ⟨c0, c1, rfl⟩ := list2 hl
  simp [hc0] at h0 h1
  obtain ⟨a, e0, x0, wa⟩ := DataW.trod_int Try.underlying26 h0
  obtain ⟨b, e1, x1, wb⟩ := DataW.trod_int Try.underlying26 h1
  rw [List.cons.injEq] at e0 e1
  rw [e0.1, e1.1]
  exact toU (word_wf wa) (word_wf wb)
theorem cells_M {fuel : Nat} {cs : List Value} {y : DataW H × List MemPlace} (h : DataW.trod enc Try.prog w base spare held fuel 56 cs = some y) :
    ∃ a c : V, cs = [.int .u64 (hi a), .int .u64 (lo a), .int .u64 (hi c), .int .u64 (lo c)] := by
  obtain ⟨y0, y1, n, _, hl, h0, h1⟩ := trod_struct2 Try.underlying56 h
  have hc : Try.prog.cellsOf 56 = 4 := by kernel_rfl
  have hc0 : Try.prog.cellsOf 54 = 2 := by kernel_rfl
  rw [hc] at hl
  obtain ⟨c0, c1, c2, c3, rfl⟩ := list4 hl
  simp [hc0] at h0 h1
  obtain ⟨a, e0⟩ := cells_U h0
  obtain ⟨b, e1⟩ := cells_U h1
  simp only [List.cons.injEq, and_true] at e0 e1
  exact ⟨a, b, by rw [e0.1, e0.2, e1.1, e1.2]⟩
set_option maxRecDepth 100000 in
theorem open_U {r : Reach} {b0 : Nat} {v : Value} {d : DataW H} {p : List MemPlace} (hv : Value.okWide Try.prog w r b0 54 v) (h : DataW.Trod enc Try.prog w base spare held 54 v d p) :
    ∃ x : V, v = .agg #[.int .u64 (hi x), .int .u64 (lo x)] := by
  obtain ⟨cs, rfl, _⟩ := okWide_struct Try.underlying54 hv
  obtain ⟨fuel, hf⟩ := h
  obtain ⟨x, e⟩ := cells_U hf
  refine ⟨x, ?_⟩
  rw [← Array.toArray_toList (xs := cs)]
  rw [show cs.toList = _ from e]
set_option maxRecDepth 100000 in
theorem open_M {r : Reach} {b0 : Nat} {v : Value} {d : DataW H} {p : List MemPlace} (hv : Value.okWide Try.prog w r b0 56 v) (h : DataW.Trod enc Try.prog w base spare held 56 v d p) :
    ∃ a c : V, v = .agg #[.int .u64 (hi a), .int .u64 (lo a), .int .u64 (hi c), .int .u64 (lo c)] := by
  obtain ⟨cs, rfl, _⟩ := okWide_struct Try.underlying56 hv
  obtain ⟨fuel, hf⟩ := h
  obtain ⟨a, c, e⟩ := cells_M hf
  refine ⟨a, c, ?_⟩
  rw [← Array.toArray_toList (xs := cs)]
  rw [show cs.toList = _ from e]
end
end Go.Proofs.Ytjjapblpmpidcaa
