import Derived.Test.YtjjapblpmpidcabTF
import Derived.Test.YtjjapblpmpidcabR3
set_option linter.unusedVariables false
set_option linter.unusedSimpArgs false
namespace Go.Proofs.Ytjjapblpmpidcab
open Go.RowKit Num UReg

theorem wideTells_walk (a b : V) (n : Int) (hn : (Lit.int .i64 n).wf = true) (v : Value) (w : World) (hv : BytesArg w v) :
    Calls Try.prog 8 #[.agg #[.int .u64 (hi a), .int .u64 (lo a)], .agg #[.int .u64 (hi b), .int .u64 (lo b)], .int .i64 n, v] w fun e w' => e = .returned (.bool true) ∧ Ext w w' := by
  rcases hv with rfl | ⟨ad, L, cap, zs, rfl, hL, hm, hc, hz⟩
  · exact wideTells_bad a b n w none 0 0 (by omega) (by omega)
  · by_cases h1 : 100 < L
    · exact wideTells_long a b n w _ L cap h1 (by omega)
    · by_cases h2 : L = 16
      · subst h2
        refine wideTells_ok a b n w ad cap (zs.take 16) (fun j hj => ?_) (by rw [List.length_take]; omega) (fun x hx => bounds_u8 (hz x (List.mem_of_mem_take hx)))
        rw [hc j (by omega), List.getElem?_take, if_pos hj, List.getD_eq_getElem?_getD]
      · exact wideTells_bad a b n w _ L cap h2 (by omega)
end Go.Proofs.Ytjjapblpmpidcab
