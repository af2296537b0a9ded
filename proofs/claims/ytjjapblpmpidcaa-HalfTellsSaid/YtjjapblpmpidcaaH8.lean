import Derived.Test.YtjjapblpmpidcaaH7
import Derived.MapKept
set_option linter.unusedVariables false
set_option linter.unusedSimpArgs false
namespace Go.Proofs.Ytjjapblpmpidcaa
open Go.RowKit Num UReg

/-! ### A map of two words -/
def putMap (w : World) (r : Nat) (es : Array MapEntry) (c : Nat) (x : Bool) (v : Value) : World :=
  { w with heap := w.heap.setIfInBounds r (.map (es.push { key := .bool x, val := v, born := c }) (c + 1)) }
theorem run_upd {w : World} {r : Nat} {es : Array MapEntry} {c : Nat} {x : Bool} {v : Value} (hb : w.heap[r]? = some (.map es c)) (hf : Instr.findNow .bool (.bool x) es.toList 0 = some none) :
    (Instr.mapUpdate 137 (.map (some r)) (.bool x) v).run Try.prog w = .ok () (putMap w r es c x v) := by
  have h1 : (getObj r).run Try.prog w = .ok (.map es c) w := by simp [getObj, Sem.run, hb]
  have h2 : ∀ o, (setObj r o).run Try.prog w = .ok () { w with heap := w.heap.setIfInBounds r o } := fun o => by simp [setObj, Sem.run, hb]
  have h3 : (Instr.checkKey false 10000 4 (.bool x)).run Try.prog w = .ok () w := by
    unfold Instr.checkKey
    simp only [Sem.run_bind, run_underlying Try.underlying4, Result.andThen_ok]
    rfl
  have h4 : (Instr.findKey 4 (.bool x) es.toList).run Try.prog w = .ok none w := by
    unfold Instr.findKey
    simp only [Sem.run_bind, run_underlying Try.underlying4, Result.andThen_ok, hf]
    rfl
  unfold Instr.mapUpdate
  simp only [Sem.run_bind, run_underlying Try.underlying137, Result.andThen_ok, h1, h3, h4, h2]
  rfl
theorem putMap_same {w : World} {r : Nat} {es : Array MapEntry} {c : Nat} (x : Bool) (v : Value) (hb : w.heap[r]? = some (.map es c)) :
    (putMap w r es c x v).heap[r]? = some (.map (es.push { key := .bool x, val := v, born := c }) (c + 1)) := by
  have h : r < w.heap.size := (Array.getElem?_eq_some_iff.1 hb).1
  simp [putMap, h]
theorem putMap_ext {A w : World} {r : Nat} {es : Array MapEntry} {c : Nat} {x : Bool} {v : Value} (h : Ext A w) (hr : A.heap.size ≤ r) : Ext A (putMap w r es c x v) :=
  ⟨h.os, h.tape, h.output, by have := h.size; simpa [putMap] using this, fun i hi => by
    have hb := h.block i hi
    rw [← hb]
    simp only [putMap]
    rw [Array.getElem?_setIfInBounds_ne (by omega)]⟩
theorem map_ext {w w' : World} {r : Nat} {o : Obj} (h : w.heap[r]? = some o) (x : Ext w w') : w'.heap[r]? = some o :=
  (x.block r (Array.getElem?_eq_some_iff.1 h).1).trans h
/-- Two words under false and true, in whatever order. -/
def TwoAt (w : World) (r : Nat) (p q : Value) : Prop := ∃ es c, w.heap[r]? = some (.map es c) ∧
  (es = #[{ key := .bool false, val := p, born := 0 }, { key := .bool true, val := q, born := 1 }] ∨ es = #[{ key := .bool true, val := q, born := 0 }, { key := .bool false, val := p, born := 1 }])
theorem TwoAt.ext {w w' : World} {r : Nat} {p q : Value} (h : TwoAt w r p q) (x : Ext w w') : TwoAt w' r p q := by
  obtain ⟨es, c, h1, h2⟩ := h
  exact ⟨es, c, map_ext h1 x, h2⟩
section
variable {ops : Array Oper} {Q : Exit → Act → World → Prop} {S : World → Prop} {safe : Nat → Bool}
theorem wpOp_insert {i : Nat} {o : Oper} {a : Act} {w : World} {mb : Nat} {es : Array MapEntry} {c : Nat} {x : Bool} {v : Value} {K : Act → World → Prop} (hi : ops[i]? = some o) (hw : Region.wanted o (yielded ops a.tmps) = true) (hd : o.dst = none)
    (hy : ∀ w es c, w.heap[mb]? = some (.map es c) → Instr.findNow .bool (.bool x) es.toList 0 = some none → (execOp a.eval o).run Try.prog w = .ok .skip (putMap w mb es c x v))
    (hb : w.heap[mb]? = some (.map es c)) (hf : Instr.findNow .bool (.bool x) es.toList 0 = some none) (h : K a (putMap w mb es c x v)) : wpOp Try.prog ops Q i K a w := by
  unfold wpOp
  simp only [hi, hw, if_true]
  refine .inl ?_
  unfold Oper.wp
  rw [hy w es c hb hf]
  simp only [Oper.upon, hd]
  exact h
theorem run_inserts {i j m m' : Nat} {rest : List (Nat × Nat)} {oi oj : Oper} {a : Act} {w : World} {mb : Nat} {p q : Value} (hi : ops[i]? = some oi) (hj : ops[j]? = some oj)
    (hwi : Region.wanted oi (yielded ops a.tmps) = true) (hwj : Region.wanted oj (yielded ops a.tmps) = true) (hdi : oi.dst = none) (hdj : oj.dst = none)
    (hmb : w.heap[mb]? = some (.map #[] 0))
    (hyi : ∀ w es c, w.heap[mb]? = some (.map es c) → Instr.findNow .bool (.bool false) es.toList 0 = some none → (execOp a.eval oi).run Try.prog w = .ok .skip (putMap w mb es c false p))
    (hyj : ∀ w es c, w.heap[mb]? = some (.map es c) → Instr.findNow .bool (.bool true) es.toList 0 = some none → (execOp a.eval oj).run Try.prog w = .ok .skip (putMap w mb es c true q))
    (hS : ∀ w es c x v, S w → S (putMap w mb es c x v))
    (h : ∀ W, TwoAt W mb p q → (∀ A : World, A.heap.size ≤ mb → Ext A w → Ext A W) → runU Try.prog ops Q S safe rest a W) :
    runU Try.prog ops Q S safe ((i, m + 3) :: (j, m') :: rest) a w := by
  constructor
  · intro w2 hw2
    have hb2 := map_ext hmb hw2
    refine wpOp_insert hi hwi hdi hyi hb2 rfl ⟨fun _ hs => hS _ _ _ _ _ hs, fun w3 hw3 => ?_⟩
    have hb3 := map_ext (putMap_same false p hb2) hw3
    refine wpOp_insert hj hwj hdj hyj hb3 rfl ⟨fun _ hs => hS _ _ _ _ _ hs, h _ ⟨_, _, putMap_same true q hb3, .inl rfl⟩ fun A hA hx => ?_⟩
    exact putMap_ext ((putMap_ext (hx.trans hw2) hA).trans hw3) hA
  · intro w2 hw2
    have hb2 := map_ext hmb hw2
    refine wpOp_insert hj hwj hdj hyj hb2 rfl ⟨fun _ hs => hS _ _ _ _ _ hs, fun w3 hw3 => ?_⟩
    have hb3 := map_ext (putMap_same true q hb2) hw3
    refine wpOp_insert hi hwi hdi hyi hb3 rfl ⟨fun _ hs => hS _ _ _ _ _ hs, h _ ⟨_, _, putMap_same false p hb3, .inr rfl⟩ fun A hA hx => ?_⟩
    exact putMap_ext ((putMap_ext (hx.trans hw2) hA).trans hw3) hA
end
theorem run_look {w : World} {r : Nat} {p q : Value} (h : TwoAt w r p q) (b : Bool) : (Instr.lookup 137 (.map (some r)) (.bool b) false).run Try.prog w = .ok (if b then q else p) w := by
  obtain ⟨es, c, hb, hes⟩ := h
  have h1 : (getObj r).run Try.prog w = .ok (.map es c) w := by simp [getObj, Sem.run, hb]
  have h3 : ∀ e, (Instr.checkKey e 10000 4 (.bool b)).run Try.prog w = .ok () w := fun e => by
    unfold Instr.checkKey
    simp only [Sem.run_bind, run_underlying Try.underlying4, Result.andThen_ok]
    rfl
  have h4 : ∃ k, (Instr.findKey 4 (.bool b) es.toList).run Try.prog w = .ok (some (k, if b then q else p)) w := by
    unfold Instr.findKey
    simp only [Sem.run_bind, run_underlying Try.underlying4, Result.andThen_ok]
    rcases hes with rfl | rfl <;> cases b <;> exact ⟨_, rfl⟩
  obtain ⟨k, h4⟩ := h4
  unfold Instr.lookup
  simp only [Sem.run_bind, run_underlying Try.underlying137, Result.andThen_ok, h1, h3, h4]
  simp [h3, h4]
end Go.Proofs.Ytjjapblpmpidcaa
