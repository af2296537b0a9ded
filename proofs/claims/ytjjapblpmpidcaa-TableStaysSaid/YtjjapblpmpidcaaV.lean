import Derived.Test.YtjjapblpmpidcaaU
import Derived.WalkKit
import Derived.Lib.Hide
set_option linter.unusedVariables false
set_option linter.unusedSimpArgs false
namespace Go.Proofs.Ytjjapblpmpidcaa.UReg
open Go Go.RowKit

/-! ### Slices of whole numbers -/
/-- v reads as xs. -/
def Reads (w : World) (k : IntKind) (v : Value) (xs : List Int) : Prop :=
  (v = .slice none 0 0 ∧ xs = []) ∨ ∃ g cap, v = .slice (some ⟨g, 0, none⟩) xs.length cap ∧ ∀ j (h : j < xs.length), w.cell? ⟨g, j, none⟩ = some (.int k xs[j])
theorem Reads.ext {w w' : World} {k : IntKind} {v : Value} {xs : List Int} (h : Reads w k v xs) (x : Ext w w') : Reads w' k v xs := by
  rcases h with h | ⟨g, cap, hv, hc⟩
  · exact .inl h
  · exact .inr ⟨g, cap, hv, fun j hj => x.cell (hc j hj)⟩
theorem Reads.of_own {w : World} {base : Nat} {e : TypeId} {k : IntKind} {v : Value} {xs : List Int} (h : w.ownsRow base e 1 v xs.length (xs.map (Value.int k))) : Reads w k v xs := by
  rcases h.2 with ⟨rfl, hn⟩ | ⟨g, cap, cur, rfl, _, hh, hcap, _, hsz, hx⟩
  · exact .inl ⟨rfl, List.length_eq_zero_iff.1 hn⟩
  · refine .inr ⟨g, cap, rfl, fun j hj => ?_⟩
    have h1 : (cur.toList.take (xs.length * 1))[j]? = some (.int k xs[j]) := by
      rw [hx]; simp [hj]
    rw [List.getElem?_take, if_pos (by omega)] at h1
    simp only [Array.getElem?_toList] at h1
    simp [World.cell?, hh, h1]
theorem Reads.flat {w : World} {k : IntKind} {v : Value} {xs : List Int} (h : Reads w k v xs) :
    ∃ p cap, v = .slice p xs.length cap ∧ ∀ j (h : j < xs.length), ∃ g, p = some ⟨g, 0, none⟩ ∧ w.cell? ⟨g, j, none⟩ = some (.int k xs[j]) := by
  rcases h with ⟨rfl, rfl⟩ | ⟨g, cap, rfl, h⟩
  · exact ⟨none, 0, rfl, fun j h => absurd h (by simp)⟩
  · exact ⟨_, _, rfl, fun j hj => ⟨g, rfl, h j hj⟩⟩
theorem own_nil (W : World) (base : Nat) (e : TypeId) (size : Nat) : W.ownsRow base e size (.slice none 0 0) 0 [] := ⟨by simp, .inl ⟨rfl, rfl⟩⟩
theorem own_ge {w : World} {base : Nat} {e : TypeId} {size n : Nat} {v : Value} {xs : List Value} (h : w.ownsRow base e size v n xs) (k : Nat) (hk : v.ownBlock = some k) : base ≤ k := by
  rcases h.2 with ⟨rfl, _⟩ | ⟨g, cap, cur, rfl, hb, _⟩
  · simp [Value.ownBlock] at hk
  · have : g = k := by simpa [Value.ownBlock] using hk
    omega
theorem own_ext {w w1 : World} {base : Nat} {e : TypeId} {size n : Nat} {v : Value} {xs : List Value} (h : w.ownsRow base e size v n xs) (x : Ext w w1) : w1.ownsRow base e size v n xs := by
  refine h.kept (row := none) ⟨x.os, x.tape, x.output, x.size, fun i hi _ => x.block i hi⟩ ?_
  cases v.ownBlock <;> simp
theorem own_set {w : World} {base : Nat} {e : TypeId} {size n : Nat} {v : Value} {xs : List Value} (h : w.ownsRow base e size v n xs) {a : Addr} (ha : a.block < base) (u : Value) : (w.setCell a u).ownsRow base e size v n xs :=
  ownsRow_setCell_below h ha u
/-- Behind an append to a row of the call's own: what lies below that row's blocks is as it was. -/
theorem grown_rules {w w1 : World} {base : Nat} {e : TypeId} {size n : Nat} {v : Value} {xs : List Value} (h : w.ownsRow base e size v n xs) (hg : w.grownBy w1 v.ownBlock) (hb : base ≤ w.heap.size) :
    (∀ b o, b < base → w1.cell? ⟨b, o, none⟩ = w.cell? ⟨b, o, none⟩) ∧ (∀ b o, b < base → w1.frozen? ⟨b, o, none⟩ = w.frozen? ⟨b, o, none⟩) := by
  have key : ∀ b, b < base → w1.heap[b]? = w.heap[b]? := fun b hlt => hg.block b (by omega) (fun e => by have := own_ge h b e.symm; omega)
  exact ⟨fun b o hlt => World.cell?_of_block (w := w) (key b hlt), fun b o hlt => World.frozen?_of_block (w := w) (key b hlt)⟩
theorem Cells.grown {w w1 : World} {base b : Nat} {e : TypeId} {size n : Nat} {v : Value} {xs vs : List Value} (c : Cells w b vs) (h : w.ownsRow base e size v n xs) (hg : w.grownBy w1 v.ownBlock) (hb : base ≤ w.heap.size) (hlt : b < base) : Cells w1 b vs := fun j hj => by
  obtain ⟨r1, r2⟩ := grown_rules h hg hb
  obtain ⟨c1, c2⟩ := c j hj
  exact ⟨(r1 b j hlt).trans c1, (r2 b j hlt).trans c2⟩
theorem Cells.set {w : World} {b : Nat} {vs : List Value} (c : Cells w b vs) (j : Nat) (u : Value) : Cells (w.setCell ⟨b, j, none⟩ u) b (vs.set j u) := fun k hk => by
  have hk' : k < vs.length := by simpa using hk
  obtain ⟨c1, c2⟩ := c k hk'
  refine ⟨?_, ?_⟩
  · by_cases hjk : j = k
    · subst hjk
      rw [World.cell?_setCell_same' _ _ _ (by rw [c1]; rfl)]
      simp
    · rw [World.cell?_setCell_other (h := by intro e; injection e with _ e2 _; exact hjk e2), c1]
      simp [hjk]
  · rw [World.frozen?_setCell]
    exact c2
theorem Cells.other {w : World} {b b' : Nat} {vs : List Value} (c : Cells w b vs) (h : b' ≠ b) (j : Nat) (u : Value) : Cells (w.setCell ⟨b', j, none⟩ u) b vs := fun k hk => by
  obtain ⟨c1, c2⟩ := c k hk
  exact ⟨by rw [World.cell?_setCell_other (h := by intro e; injection e with e1 _ _; exact h e1), c1], by rw [World.frozen?_setCell]; exact c2⟩
theorem one_new (w : World) (v : Value) (t : TypeId) : ∀ j u, [v][j]? = some u → (w.alloc (.cells #[v] t)).cell? ((⟨w.heap.size, 0, none⟩ : Addr).add j) = some u := by
  intro j u h
  match j with
  | 0 =>
    simp at h
    subst h
    simp [Addr.add]
  | j + 1 => simp at h
theorem Ext.grown {a w w1 : World} {base : Nat} {e : TypeId} {size n : Nat} {v : Value} {xs : List Value} (x : Ext a w) (h : w.ownsRow base e size v n xs) (hg : w.grownBy w1 v.ownBlock) (hb : a.heap.size ≤ base) : Ext a w1 :=
  Below.grown x hg x.size fun k hk => Nat.le_trans hb (own_ge h k hk)
end Go.Proofs.Ytjjapblpmpidcaa.UReg
