import Derived.Test.YtjjapblpmpidcaaV
import Derived.Test.YtjjapblpmpidcaaProg
import Derived.OwnWalk
import Derived.Laws.AppendOwn
import Derived.Laws.AppendOwnNone
import Derived.Laws.OwnMore
set_option linter.unusedVariables false
set_option linter.unusedSimpArgs false
namespace Go.Proofs.Ytjjapblpmpidcaa.UReg
open Go Go.RowKit

section
variable {P : Program} {ops : Array Oper} {Q : Exit → Act → World → Prop} {S : World → Prop} {safe : Nat → Bool}

/-- What is asked behind one operation. -/
def Qk (K : Act → World → Prop) (Q : Exit → Act → World → Prop) : Exit → Act → World → Prop
  | .normal, a, w => K a w
  | e, a, w => Q e a w
theorem wpOp_of_list {i : Nat} {o : Oper} {a : Act} {w : World} {K : Act → World → Prop} (hi : ops[i]? = some o) (hw : Region.wanted o (yielded ops a.tmps) = true)
    (h : wpList P ops (Qk K Q) [o] a w) : wpOp P ops Q i K a w := by
  unfold wpOp
  simp only [hi, hw, if_true]
  unfold wpList at h
  rw [if_pos hw] at h
  rcases h with h | h
  · refine .inl ?_
    unfold Oper.wp at *
    generalize (execOp a.eval o).run P w = r at *
    rcases r with ⟨n, w'⟩ | ⟨x, w'⟩
    · cases n <;> simp only [Oper.upon] at h ⊢ <;> first | exact h | (exact Calls.mono h fun e w'' he => by cases e <;> exact he) | exact Rows.mono h fun _ _ he => he
    · cases x <;> simp only [Oper.upon] at h ⊢ <;> exact h
  · exact .inr h
/-- One operation, by the laws of a list's. -/
theorem run_list {i : Nat} {rest : List (Nat × Nat)} {o : Oper} {a : Act} {w : World} (hi : ops[i]? = some o) (hw : Region.wanted o (yielded ops a.tmps) = true)
    (h : ∀ w2, Ext w w2 → ∀ K : Act → World → Prop, (∀ a' w', (safe i = true → S w2 → S w') → runU P ops Q S safe rest a' w' → K a' w') → wpList P ops (Qk K Q) [o] a w2) :
    runU P ops Q S safe ((i, 2) :: rest) a w := fun w2 h2 => wpOp_of_list hi hw (h w2 h2 _ fun _ _ hs hr => ⟨hs, hr⟩)
/-- A call whose result hangs on the world. -/
theorem run_callG {i f : Nat} {args : Array Value} {rest : List (Nat × Nat)} {o : Oper} {a : Act} {w : World} {Φ : World → Value → World → Prop} (hi : ops[i]? = some o)
    (hw : Region.wanted o (yielded ops a.tmps) = true) (hy : ∀ w, (execOp a.eval o).run P w = .ok (.enter f args) w)
    (hc : ∀ w2, Ext w w2 → Calls P f args w2 fun e w' => ∃ v, e = .returned v ∧ Φ w2 v w' ∧ Ext w2 w')
    (hS : ∀ w w', S w → Ext w w' → S w')
    (h : ∀ w2 v w', Ext w w2 → Φ w2 v w' → Ext w2 w' → runU P ops Q S safe rest (a.put o.dst v) w') : runU P ops Q S safe ((i, 2) :: rest) a w := by
  intro w2 h2
  unfold wpOp
  simp only [hi, hw, if_true]
  refine .inl ?_
  unfold Oper.wp
  rw [hy w2]
  refine Calls.mono (hc w2 h2) fun e w' he => ?_
  obtain ⟨v, rfl, hp, hx⟩ := he
  exact ⟨fun _ hs => hS _ _ hs hx, h w2 v w' h2 hp hx⟩
end

/-- A later world: what was there is as it was, but for one block. -/
structure ExtBut (b : Nat) (w w' : World) : Prop where
  size : w.heap.size ≤ w'.heap.size
  block : ∀ i, i < w.heap.size → i ≠ b → w'.heap[i]? = w.heap[i]?
theorem ExtBut.refl (b : Nat) (w : World) : ExtBut b w w := ⟨Nat.le_refl _, fun _ _ _ => rfl⟩
theorem ExtBut.ext {b : Nat} {w w1 w2 : World} (h : ExtBut b w w1) (x : Ext w1 w2) : ExtBut b w w2 :=
  ⟨Nat.le_trans h.size x.size, fun i hi hb => (x.block i (Nat.lt_of_lt_of_le hi h.size)).trans (h.block i hi hb)⟩
theorem ExtBut.setCell {b : Nat} {w w1 : World} (h : ExtBut b w w1) {p : Addr} (hp : p.block = b) (u : Value) : ExtBut b w (w1.setCell p u) :=
  ⟨by simpa using h.size, fun i hi hb => by
    rw [← h.block i hi hb]
    exact Below.heap_setCell _ _ _ _ (by rw [hp]; exact hb)⟩
theorem but_cell {b : Nat} {W w1 : World} (h : ExtBut b W w1) : (∀ c o, c < W.heap.size → c ≠ b → w1.cell? ⟨c, o, none⟩ = W.cell? ⟨c, o, none⟩) ∧ (∀ c o, c < W.heap.size → c ≠ b → w1.frozen? ⟨c, o, none⟩ = W.frozen? ⟨c, o, none⟩) :=
  ⟨fun c o hc hb => World.cell?_of_block (w := W) (h.block c hc hb), fun c o hc hb => World.frozen?_of_block (w := W) (h.block c hc hb)⟩
/-- A region that draws its order, of which one store may come up early. -/
theorem wp_region_but {P : Program} {ops : Array Oper} {Q : Exit → Act → World → Prop} {id : Nat} {a : Act} {w : World} (b : Nat) (hm : P.follows .mixedOrders = true) (plan : List (Nat × Nat)) (safe : Nat → Bool)
    (hsel : Region.noSelect ops = true) (hlen : plan.length = ops.size) (hp : planOK .any ops safe plan (Array.replicate ops.size false) = true)
    (hQ : ∀ c (a : Act) d u w, Q (.panic c) (a.put d u) w → Q (.panic c) a w)
    (h : runU P ops Q (ExtBut b w) safe plan a w) : (Code.region id ops true).wp P Q a w :=
  wp_region_plan hm plan safe (ExtBut b w) hsel hlen hp hQ (fun _ _ h k => h.ext k) h

/-! ### Rows of whole numbers of the call's own -/
def OwnI (w : World) (base : Nat) (v : Value) (xs : List Int) : Prop := w.ownsRow base 3 1 v xs.length (xs.map (Value.int .i64))
theorem OwnI.reads {w : World} {base : Nat} {v : Value} {xs : List Int} (h : OwnI w base v xs) : Reads w .i64 v xs := Reads.of_own h
theorem OwnI.ext {w w' : World} {base : Nat} {v : Value} {xs : List Int} (h : OwnI w base v xs) (x : Ext w w') : OwnI w' base v xs := own_ext h x
theorem OwnI.nil (w : World) (base : Nat) : OwnI w base (.slice none 0 0) [] := own_nil _ _ _ _
theorem OwnI.lit (w : World) (base : Nat) (xs : List Int) (hb : base ≤ w.heap.size) (hl : xs.length ≤ 100000) : OwnI (w.alloc (.cells (xs.map (Value.int .i64)).toArray 3)) base (.slice (some ⟨w.heap.size, 0, none⟩) xs.length xs.length) xs := by
  have h := World.ownsRow_lit (e := 3) (size := 1) w (xs.map (Value.int .i64)).toArray xs.length hb (by unfold maxLen; omega) (by simp)
  exact h
theorem OwnI.mono {w : World} {base b' : Nat} {v : Value} {xs : List Int} (h : OwnI w base v xs) (hb : b' ≤ base) : OwnI w b' v xs := by
  refine ⟨h.1, ?_⟩
  rcases h.2 with hn | ⟨g, cap, cur, hv, hg, rest⟩
  · exact .inl hn
  · exact .inr ⟨g, cap, cur, hv, by omega, rest⟩
theorem OwnI.set {w : World} {base : Nat} {v : Value} {xs : List Int} (h : OwnI w base v xs) {a : Addr} (ha : a.block < base) (u : Value) : OwnI (w.setCell a u) base v xs := own_set h ha u

/-- 'append(xs, ys...)', xs a row of the call's own. -/
theorem wpList_appendI {ops : Array Oper} {rest : List Oper} {o : Oper} {a : Act} {Q : Exit → Act → World → Prop} (hgd : o.guard = none) (s x : Operand)
    (ho : o.op = .call { callee := .builtin .append, args := #[s, x], argTypes := #[44, 44] }) (W : World) (base : Nat) (acc xv : Value) (bs ys : List Int)
    (hs : a.eval s = acc) (hx : a.eval x = xv) (hown : OwnI W base acc bs) (hr : Reads W .i64 xv ys) (hl : bs.length + ys.length ≤ 100000) (hbW : base ≤ W.heap.size)
    (h : ∀ v' w', OwnI w' base v' (bs ++ ys) → (∀ A : World, A.heap.size ≤ base → Ext A W → Ext A w') → (∀ b vs, b < base → Cells W b vs → Cells w' b vs) → W.heap.size ≤ w'.heap.size →
      wpList Try.prog ops Q rest (a.put o.dst v') w') : wpList Try.prog ops Q (o :: rest) a W := by
  have info : (Try.prog.info? 3).map (fun i => (i.zero, i.size, i.bytes)) = some (some (.int .i64 0), 1, 8) := by kernel_rfl
  obtain ⟨i0, hinfo, hz0, hz1, hz2⟩ := info_parts info
  unfold OwnI at hown h
  rcases hr with ⟨rfl, rfl⟩ | ⟨g, cap, rfl, hc⟩
  · refine wpList_append_own_none hgd s x 44 ho base 3 i0 1 Try.underlying44 hinfo _ bs.length (bs.map (Value.int .i64)) hs hown hx ?_
    refine h _ _ ?_ (fun A _ k => k) (fun _ _ _ k => k) (Nat.le_refl _)
    simpa using hown
  · refine wpList_append_own _ hgd s x 44 ho base 3 i0 (.int .i64 0) 1 8 Try.underlying44 hinfo hz0 hz1 hz2 rfl (by decide) _ bs.length (bs.map (Value.int .i64)) hs hown ⟨g, 0, none⟩ ys.length cap (ys.map (Value.int .i64)) hx (by simp) ?_ ?_ (by unfold maxLen; omega) (by omega) hbW ?_
    · intro j u hj
      have hjl : j < ys.length := by
        have := (List.getElem?_eq_some_iff.1 hj).1
        simpa using this
      have : (⟨g, 0, none⟩ : Addr).add j = ⟨g, j, none⟩ := by unfold Addr.add; split <;> simp_all
      rw [this, hc j hjl]
      simpa [hjl] using hj
    · intro u hu
      simp only [List.mem_map] at hu
      obtain ⟨n, _, rfl⟩ := hu
      rfl
    · intro v' w' h1 h2 _
      rw [← List.map_append, ← List.length_append] at h1
      exact h _ _ h1 (fun A hA k => k.grown hown h2 hA) (fun b vs hb k => k.grown hown h2 hbW hb) h2.size
end Go.Proofs.Ytjjapblpmpidcaa.UReg
