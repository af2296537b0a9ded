import Derived.Test.YtjjapblpmpidcaaXU
import Derived.Lib.SliceRun
set_option linter.unusedVariables false
set_option linter.unusedSimpArgs false
namespace Go.Proofs.Ytjjapblpmpidcaa.UReg
open Go Go.RowKit

/-! ### Rows of a handle and a value; tables -/
def rowC (L : List (Int × Int)) : List Value := L.flatMap fun r => [.int .i64 r.1, .int .u64 r.2]
theorem rowC_nil : rowC [] = [] := rfl
theorem rowC_cons (r : Int × Int) (L : List (Int × Int)) : rowC (r :: L) = .int .i64 r.1 :: .int .u64 r.2 :: rowC L := by simp [rowC]
theorem rowC_app (L M : List (Int × Int)) : rowC (L ++ M) = rowC L ++ rowC M := by simp [rowC]
theorem rowC_length : ∀ L : List (Int × Int), (rowC L).length = L.length * 2
  | [] => rfl
  | r :: L => by rw [rowC_cons, List.length_cons, List.length_cons, rowC_length L, List.length_cons]; omega
theorem rowC_get : ∀ (L : List (Int × Int)) (i : Nat) (h : i < L.length), (rowC L)[i * 2]? = some (.int .i64 L[i].1) ∧ (rowC L)[i * 2 + 1]? = some (.int .u64 L[i].2)
  | r :: L, 0, _ => by simp [rowC_cons]
  | r :: L, i + 1, h => by
    have ih := rowC_get L i (by simpa using h)
    have e1 : (i + 1) * 2 = i * 2 + 2 := by omega
    have e2 : (i + 1) * 2 + 1 = i * 2 + 1 + 2 := by omega
    rw [e2, e1, rowC_cons]
    simpa using ih
theorem rowC_take : ∀ (L : List (Int × Int)) (i : Nat), (rowC L).take (i * 2) = rowC (L.take i)
  | L, 0 => by simp [rowC]
  | [], i + 1 => by simp [rowC]
  | r :: L, i + 1 => by
    have e1 : (i + 1) * 2 = i * 2 + 2 := by omega
    rw [e1, rowC_cons, List.take_succ_cons, List.take_succ_cons, rowC_take L i, List.take_succ_cons, rowC_cons]
theorem rowC_drop : ∀ (L : List (Int × Int)) (i : Nat), (rowC L).drop (i * 2) = rowC (L.drop i)
  | L, 0 => by simp
  | [], i + 1 => by simp [rowC]
  | r :: L, i + 1 => by
    have e1 : (i + 1) * 2 = i * 2 + 2 := by omega
    rw [e1, rowC_cons, List.drop_succ_cons, List.drop_succ_cons, rowC_drop L i, List.drop_succ_cons]
theorem rowC_one (L : List (Int × Int)) : ∀ u ∈ rowC L, u.oneCell' = true := by
  intro u hu
  simp only [rowC, List.mem_flatMap] at hu
  obtain ⟨r, _, h⟩ := hu
  simp at h
  rcases h with rfl | rfl <;> rfl

/-- v is a row of rows, of the call's own. -/
def OwnP (e : TypeId) (w : World) (base : Nat) (v : Value) (L : List (Int × Int)) : Prop := w.ownsRow base e 2 v L.length (rowC L)
theorem OwnP.ext {e : TypeId} {w w' : World} {base : Nat} {v : Value} {L : List (Int × Int)} (h : OwnP e w base v L) (x : Ext w w') : OwnP e w' base v L := own_ext h x
theorem OwnP.ge {e : TypeId} {w : World} {base : Nat} {v : Value} {L : List (Int × Int)} (h : OwnP e w base v L) : ∀ g, v.ownBlock = some g → base ≤ g := own_ge h
theorem OwnP.lt {e : TypeId} {w : World} {base : Nat} {v : Value} {L : List (Int × Int)} (h : OwnP e w base v L) : ∀ g, v.ownBlock = some g → g < w.heap.size := fun g hg => (World.ownsRow.lt h g hg).2
theorem OwnP.same {e : TypeId} {w w' : World} {base : Nat} {v : Value} {L : List (Int × Int)} (h : OwnP e w base v L) (hb : ∀ g, v.ownBlock = some g → w'.heap[g]? = w.heap[g]?) : OwnP e w' base v L := by
  refine ⟨h.1, ?_⟩
  rcases h.2 with hn | ⟨g, cap, cur, hv, hg, hh, rest⟩
  · exact .inl hn
  · refine .inr ⟨g, cap, cur, hv, hg, ?_, rest⟩
    rw [hb g (by rw [hv]; rfl)]
    exact hh
theorem OwnP.set {e : TypeId} {w : World} {base : Nat} {v : Value} {L : List (Int × Int)} (h : OwnP e w base v L) {a : Addr} (ha : v.ownBlock ≠ some a.block) (u : Value) : OwnP e (w.setCell a u) base v L :=
  h.same fun g hg => Below.heap_setCell _ _ _ _ (fun c => ha (by rw [hg, ← c]))
theorem OwnP.mono {e : TypeId} {w : World} {base b' : Nat} {v : Value} {L : List (Int × Int)} (h : OwnP e w base v L) (hb : b' ≤ base) : OwnP e w b' v L := by
  refine ⟨h.1, ?_⟩
  rcases h.2 with hn | ⟨g, cap, cur, hv, hg, rest⟩
  · exact .inl hn
  · exact .inr ⟨g, cap, cur, hv, by omega, rest⟩
theorem OwnP.lit (e : TypeId) (w : World) (base : Nat) (hb : base ≤ w.heap.size) : OwnP e (w.alloc (.cells #[] e)) base (.slice (some ⟨w.heap.size, 0, none⟩) 0 0) [] := by
  have h := World.ownsRow_lit (e := e) (size := 2) w #[] 0 hb (by unfold maxLen; omega) (by simp)
  exact h
theorem add_off (g j : Nat) : (⟨g, 0, none⟩ : Addr).add j = ⟨g, j, none⟩ := by unfold Addr.add; split <;> simp_all
/-- The cells of a row. -/
theorem OwnP.flat {e : TypeId} {w : World} {base : Nat} {v : Value} {L : List (Int × Int)} (h : OwnP e w base v L) :
    ∃ p cap, v = .slice p L.length cap ∧ L.length ≤ cap ∧ cap ≤ maxLen ∧ ∀ i (h : i < L.length), ∃ g, p = some ⟨g, 0, none⟩ ∧ base ≤ g ∧ g < w.heap.size ∧ w.cell? ⟨g, i * 2, none⟩ = some (.int .i64 L[i].1) ∧ w.cell? ⟨g, i * 2 + 1, none⟩ = some (.int .u64 L[i].2) := by
  have hc := fun g hg => h.cells (g := g) hg
  have hl := h.lt
  have hge := h.ge
  rcases h.2 with ⟨rfl, hz⟩ | ⟨g, cap, cur, rfl, hb, hh, hcap, hm, _⟩
  · exact ⟨none, 0, by rw [hz], by omega, by unfold maxLen; omega, fun i hi => by omega⟩
  · refine ⟨_, cap, rfl, hcap, hm, fun i hi => ⟨g, rfl, hb, hl g rfl, ?_⟩⟩
    obtain ⟨g1, g2⟩ := rowC_get L i hi
    have c1 := hc g rfl (i * 2) _ g1
    have c2 := hc g rfl (i * 2 + 1) _ g2
    rw [add_off] at c1 c2
    exact ⟨c1, c2⟩

/-- What an act of a table leaves as it was. -/
structure Chg (tb : Nat) (v v' : Value) (W w' : World) : Prop where
  os : w'.os = W.os
  tape : w'.tape = W.tape
  output : w'.output = W.output
  size : W.heap.size ≤ w'.heap.size
  block : ∀ k, k < W.heap.size → k ≠ tb → v.ownBlock ≠ some k → w'.heap[k]? = W.heap[k]?
  own : v'.ownBlock = v.ownBlock ∨ ∀ g, v'.ownBlock = some g → W.heap.size ≤ g
theorem Chg.of_ext {tb : Nat} {v : Value} {W w' : World} (x : Ext W w') : Chg tb v v W w' := ⟨x.os, x.tape, x.output, x.size, fun k hk _ _ => x.block k hk, .inl rfl⟩
theorem Chg.trans {tb : Nat} {v v' v'' : Value} {W w1 w2 : World} (a : Chg tb v v' W w1) (b : Chg tb v' v'' w1 w2) : Chg tb v v'' W w2 := by
  refine ⟨b.os.trans a.os, b.tape.trans a.tape, b.output.trans a.output, Nat.le_trans a.size b.size, fun k hk h1 h2 => ?_, ?_⟩
  · refine (b.block k (Nat.lt_of_lt_of_le hk a.size) h1 fun e => ?_).trans (a.block k hk h1 h2)
    rcases a.own with h | h
    · exact h2 (h ▸ e)
    · have := h k e; omega
  · rcases b.own with h | h
    · rcases a.own with h' | h'
      · exact .inl (h.trans h')
      · exact .inr fun g hg => h' g (h ▸ hg)
    · exact .inr fun g hg => Nat.le_trans a.size (h g hg)
theorem Chg.ext {tb : Nat} {v v' : Value} {A W w' : World} (h : Chg tb v v' W w') (x : Ext A W) (ht : A.heap.size ≤ tb) (hv : ∀ g, v.ownBlock = some g → A.heap.size ≤ g) : Ext A w' :=
  ⟨h.os.trans x.os, h.tape.trans x.tape, h.output.trans x.output, Nat.le_trans x.size h.size, fun i hi => (h.block i (Nat.lt_of_lt_of_le hi x.size) (by omega) (fun e => by have := hv i e; omega)).trans (x.block i hi)⟩
theorem Chg.grew {tb : Nat} {v v' : Value} {W w' : World} (h : Grew W w' v v') : Chg tb v v' W w' := ⟨h.os, h.tape, h.output, h.size, fun k hk _ hv => h.block k hk hv, h.own⟩
theorem Chg.set {tb : Nat} {v v' : Value} {W w' : World} (h : Chg tb v v' W w') (o : Nat) (u : Value) : Chg tb v v' W (w'.setCell ⟨tb, o, none⟩ u) :=
  ⟨h.os, h.tape, h.output, by simpa using h.size, fun k hk h1 h2 => by rw [← h.block k hk h1 h2]; exact Below.heap_setCell _ _ _ _ (fun c => h1 c), h.own⟩
theorem Chg.cells {tb : Nat} {v v' : Value} {W w' : World} (h : Chg tb v v' W w') {b : Nat} {vs : List Value} (hb : b ≠ tb) (hv : v.ownBlock ≠ some b) (c : Cells W b vs) : Cells w' b vs := fun j hj => by
  obtain ⟨c1, c2⟩ := c j hj
  have hlt : b < W.heap.size := World.block_lt_of_cell? W ⟨b, j, none⟩ c1
  have key := h.block b hlt hb hv
  exact ⟨(World.cell?_of_block (w := W) (a := ⟨b, j, none⟩) key).trans c1, (World.frozen?_of_block (w := W) (a := ⟨b, j, none⟩) key).trans c2⟩
theorem Chg.ne {tb : Nat} {v v' : Value} {W w' : World} (h : Chg tb v v' W w') {b : Nat} (hb : v.ownBlock ≠ some b) (hlt : b < W.heap.size) : v'.ownBlock ≠ some b := fun e => by
  rcases h.own with h | h
  · exact hb (h ▸ e)
  · have := h b e; omega

/-- A table: at tb its rows' slice and the next handle. -/
structure Tab (e : TypeId) (B : Nat) (w : World) (tb : Nat) (v : Value) (L : List (Int × Int)) (nx : Int) : Prop where
  own : OwnP e w B v L
  cells : Cells w tb [v, .int .i64 nx]
  ne : v.ownBlock ≠ some tb
  base : B ≤ tb
theorem Tab.lt {e : TypeId} {B : Nat} {w : World} {tb : Nat} {v : Value} {L : List (Int × Int)} {nx : Int} (h : Tab e B w tb v L nx) : tb < w.heap.size := h.cells.lt
theorem Tab.ext {e : TypeId} {B : Nat} {w w' : World} {tb : Nat} {v : Value} {L : List (Int × Int)} {nx : Int} (h : Tab e B w tb v L nx) (x : Ext w w') : Tab e B w' tb v L nx := ⟨h.own.ext x, h.cells.ext x, h.ne, h.base⟩
theorem Tab.mono {e : TypeId} {B B' : Nat} {w : World} {tb : Nat} {v : Value} {L : List (Int × Int)} {nx : Int} (h : Tab e B w tb v L nx) (hb : B' ≤ B) : Tab e B' w tb v L nx := ⟨h.own.mono hb, h.cells, h.ne, Nat.le_trans hb h.base⟩
/-- Two tables apart. -/
structure Apart (tb : Nat) (v : Value) (tc : Nat) (u : Value) : Prop where
  one : tb ≠ tc
  two : v.ownBlock ≠ some tc
  three : u.ownBlock ≠ some tb
  four : ∀ g, v.ownBlock = some g → u.ownBlock ≠ some g
theorem Apart.symm {tb tc : Nat} {v u : Value} (h : Apart tb v tc u) : Apart tc u tb v := ⟨h.one.symm, h.three, h.two, fun g h1 h2 => h.four g h2 h1⟩
theorem Tab.other {e : TypeId} {B : Nat} {W w' : World} {tb tc : Nat} {v v' u : Value} {L : List (Int × Int)} {nx : Int} (h : Tab e B W tc u L nx) (a : Apart tb v tc u) (c : Chg tb v v' W w') : Tab e B w' tc u L nx :=
  ⟨h.own.same fun g hg => c.block g (h.own.lt g hg) (fun x => a.three (by rw [hg, x])) (fun x => a.four g x hg), c.cells a.one.symm a.two h.cells, h.ne, h.base⟩
theorem Apart.chg {e : TypeId} {B : Nat} {W w' : World} {tb tc : Nat} {v v' u : Value} {L : List (Int × Int)} {nx : Int} (a : Apart tb v tc u) (h : Tab e B W tc u L nx) (c : Chg tb v v' W w') : Apart tb v' tc u := by
  refine ⟨a.one, c.ne a.two h.lt, a.three, fun g h1 h2 => ?_⟩
  rcases c.own with x | x
  · exact a.four g (x ▸ h1) h2
  · have := x g h1
    have := h.own.lt g h2
    omega
end Go.Proofs.Ytjjapblpmpidcaa.UReg
