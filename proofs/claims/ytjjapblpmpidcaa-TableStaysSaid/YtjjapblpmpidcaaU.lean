import Derived.Orders
import Derived.Tactics
import Derived.Below
import Derived.ScopeJumps
set_option linter.unusedVariables false
set_option linter.unusedSimpArgs false
namespace Go.Proofs.Ytjjapblpmpidcaa.UReg
open Go Go.RowKit

/-- A later world: what was there is as it was. -/
def Ext (w w' : World) : Prop := Below w.heap.size w w'
theorem Ext.refl (w : World) : Ext w w := Below.refl _ _
theorem Ext.trans {a b c : World} (h : Ext a b) (k : Ext b c) : Ext a c := Below.trans h (Below.mono k h.size)
theorem Ext.draw (w : World) : Ext w { w with drawn := w.drawn + 1 } := ⟨rfl, rfl, rfl, Nat.le_refl _, fun _ _ => rfl⟩
theorem Ext.alloc {a w : World} (h : Ext a w) (o : Obj) : Ext a (w.alloc o) := Below.alloc h h.size o
theorem Ext.setCell {a w : World} (h : Ext a w) {p : Addr} (hp : a.heap.size ≤ p.block) (u : Value) : Ext a (w.setCell p u) := Below.setCell h hp u
theorem Ext.drew {a w : World} (h : Ext a w) : Ext a w.drew := Below.drew h
theorem Ext.cell {w w' : World} (h : Ext w w') {a : Addr} {v : Value} (hc : w.cell? a = some v) : w'.cell? a = some v :=
  (Below.cell h (World.block_lt_of_cell? w a hc)).trans hc

theorem ext_cell {W w1 : World} (hb : Ext W w1) : (∀ b o, b < W.heap.size → w1.cell? ⟨b, o, none⟩ = W.cell? ⟨b, o, none⟩) ∧ (∀ b o, b < W.heap.size → w1.frozen? ⟨b, o, none⟩ = W.frozen? ⟨b, o, none⟩) :=
  ⟨fun b o h => Below.cell hb (p := ⟨b, o, none⟩) h, fun b o h => Below.frozen hb (p := ⟨b, o, none⟩) h⟩

/-! ### A block whose first cells are known, and may be written -/
def Cells (w : World) (b : Nat) (vs : List Value) : Prop := ∀ j (h : j < vs.length), w.cell? ⟨b, j, none⟩ = some vs[j] ∧ w.frozen? ⟨b, j, none⟩ = false
theorem Cells.two {w : World} {b : Nat} {x y : Value} (h : Cells w b [x, y]) :
    w.cell? ⟨b, 0, none⟩ = some x ∧ w.cell? ⟨b, 1, none⟩ = some y ∧ w.frozen? ⟨b, 0, none⟩ = false ∧ w.frozen? ⟨b, 1, none⟩ = false :=
  ⟨(h 0 (by simp)).1, (h 1 (by simp)).1, (h 0 (by simp)).2, (h 1 (by simp)).2⟩
theorem Cells.mk2 {w : World} {b : Nat} {x y : Value} (h0 : w.cell? ⟨b, 0, none⟩ = some x) (h1 : w.cell? ⟨b, 1, none⟩ = some y) (f0 : w.frozen? ⟨b, 0, none⟩ = false) (f1 : w.frozen? ⟨b, 1, none⟩ = false) : Cells w b [x, y]
  | 0, _ => ⟨h0, f0⟩
  | 1, _ => ⟨h1, f1⟩
theorem Cells.four {w : World} {b : Nat} {x y z t : Value} (h : Cells w b [x, y, z, t]) :
    w.cell? ⟨b, 0, none⟩ = some x ∧ w.cell? ⟨b, 1, none⟩ = some y ∧ w.cell? ⟨b, 2, none⟩ = some z ∧ w.cell? ⟨b, 3, none⟩ = some t ∧
    w.frozen? ⟨b, 0, none⟩ = false ∧ w.frozen? ⟨b, 1, none⟩ = false ∧ w.frozen? ⟨b, 2, none⟩ = false ∧ w.frozen? ⟨b, 3, none⟩ = false :=
  ⟨(h 0 (by simp)).1, (h 1 (by simp)).1, (h 2 (by simp)).1, (h 3 (by simp)).1, (h 0 (by simp)).2, (h 1 (by simp)).2, (h 2 (by simp)).2, (h 3 (by simp)).2⟩
theorem Cells.mk4 {w : World} {b : Nat} {x y z t : Value} (h0 : w.cell? ⟨b, 0, none⟩ = some x) (h1 : w.cell? ⟨b, 1, none⟩ = some y) (h2 : w.cell? ⟨b, 2, none⟩ = some z) (h3 : w.cell? ⟨b, 3, none⟩ = some t)
    (f0 : w.frozen? ⟨b, 0, none⟩ = false) (f1 : w.frozen? ⟨b, 1, none⟩ = false) (f2 : w.frozen? ⟨b, 2, none⟩ = false) (f3 : w.frozen? ⟨b, 3, none⟩ = false) : Cells w b [x, y, z, t]
  | 0, _ => ⟨h0, f0⟩
  | 1, _ => ⟨h1, f1⟩
  | 2, _ => ⟨h2, f2⟩
  | 3, _ => ⟨h3, f3⟩
theorem Cells.ext {w w' : World} {b : Nat} {vs : List Value} (h : Cells w b vs) (k : Ext w w') : Cells w' b vs := fun j hj => by
  obtain ⟨h1, h2⟩ := h j hj
  have hb : b < w.heap.size := World.block_lt_of_cell? w ⟨b, j, none⟩ h1
  exact ⟨k.cell h1, (Below.frozen k (p := ⟨b, j, none⟩) hb).trans h2⟩
theorem Cells.lt {w : World} {b : Nat} {v : Value} {vs : List Value} (h : Cells w b (v :: vs)) : b < w.heap.size :=
  World.block_lt_of_cell? w ⟨b, 0, none⟩ (h 0 (by simp)).1

/-- The number of 128 bits that lies in a block. -/
def numAt (w : World) (b : Nat) : Int :=
  (match w.cell? ⟨b, 0, none⟩ with | some (.int _ h) => h | _ => 0) * 18446744073709551616 + (match w.cell? ⟨b, 1, none⟩ with | some (.int _ l) => l | _ => 0)
theorem numAt_eq {w : World} {b : Nat} {k k' : IntKind} {h l : Int} {vs : List Value} (hc : Cells w b (.int k h :: .int k' l :: vs)) : numAt w b = h * 18446744073709551616 + l := by
  have h0 := (hc 0 (by simp)).1
  have h1 := (hc 1 (by simp)).1
  simp only [List.getElem_cons_zero, List.getElem_cons_succ] at h0 h1
  unfold numAt
  rw [h0, h1]

theorem wp_skip_seq {P : Program} {a : Act} {w : World} {Q : Exit → Act → World → Prop} {c : Code} (h : c.wp P Q a w) : (Code.skip.seq c).wp P Q a w := by
  apply wp_seq_k
  intro K hK
  apply wp_skip
  exact hK _ _ h

/-- A scope in which the run jumps back to one label: the pass from the label is shown once. -/
theorem wp_scope_once {P : Program} {a : Act} {w : World} {Q : Exit → Act → World → Prop} {c rest : Code} (l : Nat) (J : Act → World → Prop) (μ : Act → World → Nat) (hf : findLabel c l = some (Code.skip.seq rest))
    (start : (∀ a w, J a w → rest.wp P (Exit.jump l J Q) a w) → c.wp P (Exit.jump l J Q) a w)
    (pass : ∀ a w, J a w → rest.wp P (Exit.jump l (fun a' w' => J a' w' ∧ μ a' w' < μ a w) Q) a w) : (Code.scope c).wp P Q a w :=
  wp_scope_jumps l J μ hf (start fun a w h => Code.wp_mono (fun e a w q => by cases e <;> first | exact q | exact ⟨q.1, q.2.1⟩) (pass a w h)) fun a w h => wp_skip_seq (pass a w h)

/-- What running an operation in the world w comes to: the value v, and a later world. -/
def Yld (P : Program) (w : World) (v : Value) : Result Next → Prop
  | .ok (.value u) w' => u = v ∧ Ext w w'
  | .ok .skip w' => undef = v ∧ Ext w w'
  | .ok (.enter f args) w' => Ext w w' ∧ Calls P f args w' fun e w'' => e = .returned v ∧ Ext w' w''
  | _ => False

section
variable {P : Program} {ops : Array Oper} {Q : Exit → Act → World → Prop} {md : Region.Mode} {S T : World → Prop} {safe : Nat → Bool}

/-- In every world that meets T the operation yields v and leaves a later world. -/
def YX (P : Program) (ops : Array Oper) (T : World → Prop) (o : Oper) (v : Value) (a : Act) : Prop :=
  (Region.wanted o (yielded ops a.tmps) = true ∧ ∀ w, T w → Yld P w v ((execOp a.eval o).run P w)) ∨
  (Region.wanted o (yielded ops a.tmps) = false ∧ v = undef)

theorem YX.of_same {o : Oper} {v : Value} {a a' : Act} (hy : YX P ops T o v a) (he : execOp a'.eval o = execOp a.eval o)
    (hw : Region.wanted o (yielded ops a'.tmps) = Region.wanted o (yielded ops a.tmps)) : YX P ops T o v a' := by
  unfold YX at *
  rw [he, hw]
  exact hy

theorem Yld.upon {o : Oper} {v : Value} {a : Act} {w : World} {r : Result Next} (h : Yld P w v r) {K : Act → World → Prop}
    (hK : ∀ w', Ext w w' → K (a.put o.dst v) w') : o.upon P a K Q r := by
  cases r with
  | ok n w' =>
    cases n <;> simp only [Yld, Oper.upon] at h ⊢
    case value u => obtain ⟨rfl, hs⟩ := h; exact hK _ hs
    case skip => obtain ⟨rfl, hs⟩ := h; exact hK _ hs
    case enter f args =>
      refine Calls.mono h.2 fun e w'' he => ?_
      obtain ⟨rfl, hs⟩ := he
      exact hK _ (h.1.trans hs)
  | halt x w' => exact h.elim

theorem YX.wpOp {i : Nat} {o : Oper} {v : Value} {a : Act} (hi : ops[i]? = some o) (hy : YX P ops T o v a)
    {K : Act → World → Prop} {w : World} (hT : T w) (h : ∀ w', Ext w w' → K (a.put o.dst v) w') : wpOp P ops Q i K a w := by
  unfold Go.wpOp
  simp only [hi]
  rcases hy with ⟨hw, hv⟩ | ⟨hw, rfl⟩
  · simp only [hw, if_true, Oper.wp]; exact .inl ((hv w hT).upon h)
  · simp only [hw, Bool.false_eq_true, if_false]; exact h w (Ext.refl _)

/-- An operation oj apart from oi: that oi's value lies in its slot makes no difference to it, and it makes none to oi. -/
theorem wpOp_past {j : Nat} {oi oj : Oper} {v : Value} (hj : ops[j]? = some oj) (hap : oi.apart ops oj = true)
    (hsi : ∀ cs b, oi.op ≠ .select cs b) (hsj : ∀ cs b, oj.op ≠ .select cs b)
    (hQ : ∀ c (a : Act) d u w, Q (.panic c) (a.put d u) w → Q (.panic c) a w) {K : Act → World → Prop} {a : Act} {w : World}
    (hy : YX P ops T oi v a) (h : wpOp P ops Q j K (a.put oi.dst v) w) :
    wpOp P ops Q j (fun a' w' => YX P ops T oi v a' ∧ K (a'.put oi.dst v) w') a w := by
  obtain ⟨h1, h2, h3⟩ := Oper.apart_spec hap
  have stay : ∀ b : Act, YX P ops T oi v b → ∀ u, YX P ops T oi v (b.put oj.dst u) := fun b hb u =>
    hb.of_same (execOp_put oi hsi b oj.dst u h3) (wanted_put oi b oj.dst u h3)
  unfold wpOp at *
  simp only [hj] at *
  rw [wanted_put oj a oi.dst v h1] at h
  by_cases hw : Region.wanted oj (yielded ops a.tmps) = true
  · rw [if_pos hw] at h ⊢
    rcases h with h | ⟨hasks, hlets⟩
    · refine .inl ?_
      unfold Oper.wp at *
      rw [execOp_put oj hsj a oi.dst v h1] at h
      generalize (execOp a.eval oj).run P w = r at *
      rcases r with ⟨n, w'⟩ | ⟨x, w'⟩
      · cases n with
        | value u =>
          simp only [Oper.upon] at h ⊢
          exact ⟨stay a hy u, (Act.put_comm a v u h2) ▸ h⟩
        | skip =>
          simp only [Oper.upon] at h ⊢
          exact ⟨stay a hy _, (Act.put_comm a v undef h2) ▸ h⟩
        | defer d =>
          simp only [Oper.upon] at h ⊢
          have hd : YX P ops T oi v { a with defers := d :: a.defers } := hy.of_same rfl rfl
          exact ⟨stay _ hd _, by rw [← Act.put_comm _ v undef h2, ← Act.put_defers]; exact h⟩
        | enter f args =>
          simp only [Oper.upon] at h ⊢
          refine Calls.mono h fun e w'' he => ?_
          cases e with
          | returned u => exact ⟨stay a hy u, (Act.put_comm a v u h2) ▸ he⟩
          | panicked c => exact hQ _ _ _ _ _ he
          | outgrown => exact he
        | row row args =>
          simp only [Oper.upon] at h ⊢
          exact Rows.mono h fun u w'' he => ⟨stay a hy u, (Act.put_comm a v u h2) ▸ he⟩
        | _ => exact h.elim
      · cases x <;> simp only [Oper.upon] at h ⊢
        case panic u => exact hQ _ _ _ _ _ h
    · refine .inr ⟨?_, hlets⟩
      unfold Oper.asks at *
      rw [execOp_put oj hsj a oi.dst v h1] at hasks
      exact hasks
  · rw [if_neg hw] at h ⊢
    exact ⟨stay a hy _, (Act.put_comm a v undef h2) ▸ h⟩

/-- Whatever order is picked, and whatever is laid beside meanwhile. An operation that is 'safe' keeps S. -/
def wpU (P : Program) (md : Region.Mode) (ops : Array Oper) (Q : Exit → Act → World → Prop) (S : World → Prop) (safe : Nat → Bool) : Nat → Array Bool → Act → World → Prop
  | 0, listed, a, w => Region.ready md ops listed = [] ∧ ∀ w2, Ext w w2 → Q .normal a w2
  | fuel + 1, listed, a, w => ∀ w2, Ext w w2 →
    ((Region.ready md ops listed = [] → Q .normal a w2) ∧
    ∀ i ∈ Region.ready md ops listed, wpOp P ops Q i (fun a' w' => (safe i = true → S w2 → S w') ∧ wpU P md ops Q S safe fuel (listed.setIfInBounds i true) a' w') a w2)

theorem wpU.up : ∀ {fuel : Nat} {listed : Array Bool} {a : Act} {w w' : World}, wpU P md ops Q S safe fuel listed a w → Ext w w' → wpU P md ops Q S safe fuel listed a w'
  | 0, _, _, _, _, h, k => ⟨h.1, fun w2 h2 => h.2 w2 (k.trans h2)⟩
  | _ + 1, _, _, _, _, h, k => fun w2 h2 => h w2 (k.trans h2)

theorem wpU.any : ∀ {fuel : Nat} {listed : Array Bool} {a : Act} {w : World}, wpU P md ops Q S safe fuel listed a w → wpAny P md ops Q fuel listed a w
  | 0, _, _, w, h => ⟨h.1, h.2 w (Ext.refl _)⟩
  | _ + 1, _, _, w, h => ⟨(h w (Ext.refl _)).1, fun i hi => wpOp_mono (fun _ _ h' => wpU.any h'.2) ((h w (Ext.refl _)).2 i hi)⟩

/-- Does j wait for i, by any chain. -/
def waits (md : Region.Mode) (ops : Array Oper) : Nat → Nat → Nat → Bool
  | 0, _, _ => false
  | n + 1, j, i => match ops[j]? with
    | none => false
    | some oj => oj.after.any fun e => Region.binds md e && (e.on == i || waits md ops n e.on i)

/-- What has come up has come up behind all that it waits for. -/
def Closed (md : Region.Mode) (ops : Array Oper) (listed : Array Bool) : Prop :=
  ∀ k o, ops[k]? = some o → listed.getD k false = true → ∀ e ∈ o.after, Region.binds md e = true → listed.getD e.on false = true

theorem waits_listed {listed : Array Bool} (hc : Closed md ops listed) : ∀ (n k i : Nat), (∀ o, ops[k]? = some o → ∀ e ∈ o.after, Region.binds md e = true → listed.getD e.on false = true) →
    waits md ops n k i = true → listed.getD i false = true := by
  intro n
  induction n with
  | zero => intro k i _ h; cases h
  | succ n ih =>
    intro k i hk h
    unfold waits at h
    cases ho : ops[k]? with
    | none => simp [ho] at h
    | some o =>
      simp only [ho] at h
      obtain ⟨e, he, hb⟩ := Array.any_eq_true'.1 h
      simp only [Bool.and_eq_true, Bool.or_eq_true, beq_iff_eq] at hb
      obtain ⟨hb1, hb2⟩ := hb
      have hl := hk o ho e he hb1
      rcases hb2 with hb2 | hb2
      · rw [← hb2]; exact hl
      · exact ih e.on i (fun o' ho' e' he' hb' => hc e.on o' ho' hl e' he' hb') hb2

theorem Closed.set {listed : Array Bool} (hc : Closed md ops listed) {j : Nat} (hj : j ∈ Region.ready md ops listed) : Closed md ops (listed.setIfInBounds j true) := by
  intro k o ho hk e he hb
  by_cases hjk : j = k
  · subst hjk
    obtain ⟨_, o', ho', hall⟩ := mem_ready.1 hj
    obtain rfl : o = o' := by rw [ho] at ho'; exact Option.some.inj ho'
    exact getD_set_true (hall e he hb)
  · rw [getD_set_ne false hjk] at hk
    exact getD_set_true (hc k o ho hk e he hb)

theorem unlisted {listed : Array Bool} {i : Nat} (h : listed.getD i true = false) : listed.getD i false = false := by
  rcases Nat.lt_or_ge i listed.size with h' | h'
  · simpa [h'] using h
  · simp [Array.getElem?_eq_none h'] at h

/-- **An operation that may come up now may be taken first**, if it yields its value in every world that meets T, and whatever may come before it keeps T. -/
theorem wpU_first {i : Nat} {oi : Oper} {v : Value} (hi : ops[i]? = some oi) (hsel : Region.noSelect ops = true)
    (hQ : ∀ c (a : Act) d u w, Q (.panic c) (a.put d u) w → Q (.panic c) a w) (hS : ∀ w w', S w → Ext w w' → S w') (hT : ∀ w w', T w → Ext w w' → T w') (n : Nat) :
    ∀ (fuel : Nat) (listed : Array Bool) (a : Act) (w : World), Closed md ops listed →
      (∀ j oj, ops[j]? = some oj → j ≠ i → listed.getD j true = false → (∀ e ∈ oj.after, Region.binds md e = true → e.on ≠ i) → oi.apart ops oj = true) →
      (∀ j oj, ops[j]? = some oj → j ≠ i → listed.getD j true = false → waits md ops n j i = true ∨ ∀ w2 w', T w2 → (safe j = true → S w2 → S w') → T w') →
      i ∈ Region.ready md ops listed → YX P ops T oi v a → T w →
      wpU P md ops Q S safe fuel (listed.setIfInBounds i true) (a.put oi.dst v) w → wpU P md ops Q S safe (fuel + 1) listed a w := by
  intro fuel
  induction fuel with
  | zero =>
    intro listed a w hc _ _ hr hy hw H w2 h2
    refine ⟨fun h => (by rw [h] at hr; cases hr), fun j hj => ?_⟩
    by_cases hji : j = i
    · subst hji
      exact hy.wpOp hi (hT _ _ hw h2) fun w' hw' => ⟨fun _ hs => hS _ _ hs hw', H.up (h2.trans hw')⟩
    · have := ready_mono hj hji
      rw [H.1] at this
      cases this
  | succ fuel ih =>
    intro listed a w hc hfree hk hr hy hw H w2 h2
    refine ⟨fun h => (by rw [h] at hr; cases hr), fun j hj => ?_⟩
    by_cases hji : j = i
    · subst hji
      exact hy.wpOp hi (hT _ _ hw h2) fun w' hw' => ⟨fun _ hs => hS _ _ hs hw', H.up (h2.trans hw')⟩
    · have hH := (H w2 h2).2 j (ready_mono hj hji)
      obtain ⟨hjun, oj, hoj, hall⟩ := mem_ready.1 hj
      have h0 := (mem_ready.1 hr).1
      have hnot : ∀ e ∈ oj.after, Region.binds md e = true → e.on ≠ i := fun e he hb heq => by
        have h1 := hall e he hb
        rw [heq, unlisted h0] at h1
        cases h1
      have hkj : ∀ w', (safe j = true → S w2 → S w') → T w' := by
        rcases hk j oj hoj hji hjun with hwt | hk'
        · have := waits_listed hc n j i (fun o ho e he hb => by
            obtain rfl : oj = o := by rw [hoj] at ho; exact Option.some.inj ho
            exact hall e he hb) hwt
          rw [unlisted h0] at this
          cases this
        · exact fun w' => hk' w2 w' (hT _ _ hw h2)
      have h3 := wpOp_past hoj (hfree j oj hoj hji hjun hnot) (fun cs b => Region.noSelect_spec hsel i oi cs b hi) (fun cs b => Region.noSelect_spec hsel j oj cs b hoj) hQ hy hH
      have sub : ∀ k, (listed.setIfInBounds j true).getD k true = false → listed.getD k true = false := fun k hun => by
        by_cases hjk : j = k
        · subst hjk; exact hjun
        · rw [getD_set_ne true hjk] at hun; exact hun
      refine wpOp_mono (fun a' w' h4 => ⟨h4.2.1, ?_⟩) h3
      refine ih (listed.setIfInBounds j true) a' w' (hc.set hj) (fun k ok hk1 hk2 hk3 hk4 => hfree k ok hk1 hk2 (sub k hk3) hk4) (fun k ok hk0 hk1 hk2 => hk k ok hk0 hk1 (sub k hk2)) (ready_mono hr (Ne.symm hji)) h4.1 (hkj w' h4.2.1) ?_
      rw [Array.setIfInBounds_comm _ _ hji]
      exact h4.2.2

/-! ### A plan: in what order the operations are gone through; each pure (0), told by S (1), or carried out where it stands (2) -/
def planOK (md : Region.Mode) (ops : Array Oper) (safe : Nat → Bool) : List (Nat × Nat) → Array Bool → Bool
  | [], listed => (Region.ready md ops listed).isEmpty
  | (i, 0) :: rest, listed => (Region.ready md ops listed).contains i && Region.free md ops listed i && planOK md ops safe rest (listed.setIfInBounds i true)
  | (i, 1) :: rest, listed => ((Region.ready md ops listed).contains i && Region.free md ops listed i && (List.range ops.size).all fun j => j == i || listed.getD j true || safe j || waits md ops ops.size j i) && planOK md ops safe rest (listed.setIfInBounds i true)
  | (i, 2) :: rest, listed => Region.ready md ops listed == [i] && planOK md ops safe rest (listed.setIfInBounds i true)
  | (i, _ + 3) :: (j, _) :: rest, listed => (Region.ready md ops listed == [i, j] && (Region.ready md ops (listed.setIfInBounds i true) == [j] && Region.ready md ops (listed.setIfInBounds j true) == [i])) && planOK md ops safe rest ((listed.setIfInBounds i true).setIfInBounds j true)
  | [(_, _ + 3)], _ => false

/-- The operations in the plan's order. -/
def runU (P : Program) (ops : Array Oper) (Q : Exit → Act → World → Prop) (S : World → Prop) (safe : Nat → Bool) : List (Nat × Nat) → Act → World → Prop
  | [], a, w => ∀ w2, Ext w w2 → Q .normal a w2
  | (i, 0) :: rest, a, w => ∃ o v, ops[i]? = some o ∧ YX P ops (fun _ => True) o v a ∧ runU P ops Q S safe rest (a.put o.dst v) w
  | (i, 1) :: rest, a, w => ∃ o v, ops[i]? = some o ∧ YX P ops S o v a ∧ S w ∧ runU P ops Q S safe rest (a.put o.dst v) w
  | (i, 2) :: rest, a, w => ∀ w2, Ext w w2 → wpOp P ops Q i (fun a' w' => (safe i = true → S w2 → S w') ∧ runU P ops Q S safe rest a' w') a w2
  | (i, _ + 3) :: (j, _) :: rest, a, w =>
    (∀ w2, Ext w w2 → wpOp P ops Q i (fun a' w' => (safe i = true → S w2 → S w') ∧ ∀ w3, Ext w' w3 → wpOp P ops Q j (fun a'' w'' => (safe j = true → S w3 → S w'') ∧ runU P ops Q S safe rest a'' w'') a' w3) a w2) ∧
    (∀ w2, Ext w w2 → wpOp P ops Q j (fun a' w' => (safe j = true → S w2 → S w') ∧ ∀ w3, Ext w' w3 → wpOp P ops Q i (fun a'' w'' => (safe i = true → S w3 → S w'') ∧ runU P ops Q S safe rest a'' w'') a' w3) a w2)
  | [(_, _ + 3)], _, _ => False

theorem wpU_of_run (hsel : Region.noSelect ops = true) (hQ : ∀ c (a : Act) d u w, Q (.panic c) (a.put d u) w → Q (.panic c) a w) (hS : ∀ w w', S w → Ext w w' → S w') :
    ∀ (plan : List (Nat × Nat)) (listed : Array Bool) (a : Act) (w : World), Closed md ops listed → planOK md ops safe plan listed = true →
      runU P ops Q S safe plan a w → wpU P md ops Q S safe plan.length listed a w
  | [], _, _, _, _, hp, h => ⟨List.isEmpty_iff.1 hp, h⟩
  | (i, 0) :: rest, listed, a, w, hc, hp, h => by
    simp only [planOK, Bool.and_eq_true] at hp
    obtain ⟨⟨h1, h2⟩, h4⟩ := hp
    obtain ⟨o, v, ho, hy, hr⟩ := h
    have hm : i ∈ Region.ready md ops listed := by simpa using h1
    exact wpU_first ho hsel hQ hS (fun _ _ _ _ => trivial) 0 _ _ _ _ hc (Region.free_spec ho h2) (fun _ _ _ _ _ => .inr fun _ _ _ _ => trivial) hm hy trivial
      (wpU_of_run hsel hQ hS rest _ _ _ (hc.set hm) h4 hr)
  | (i, 1) :: rest, listed, a, w, hc, hp, h => by
    simp only [planOK, Bool.and_eq_true] at hp
    obtain ⟨⟨⟨h1, h2⟩, h3⟩, h4⟩ := hp
    obtain ⟨o, v, ho, hy, hs, hr⟩ := h
    have hm : i ∈ Region.ready md ops listed := by simpa using h1
    refine wpU_first ho hsel hQ hS hS ops.size _ _ _ _ hc (Region.free_spec ho h2) (fun j oj hoj hj hun => ?_) hm hy hs
      (wpU_of_run hsel hQ hS rest _ _ _ (hc.set hm) h4 hr)
    have hlt : j < ops.size := (Array.getElem?_eq_some_iff.1 hoj).1
    have := List.all_eq_true.1 h3 j (List.mem_range.2 hlt)
    simp only [Bool.or_eq_true, beq_iff_eq, hj, hun, Bool.false_eq_true, false_or] at this
    rcases this with this | this
    · exact .inr fun w2 w' h2 hw' => hw' this h2
    · exact .inl this
  | (i, 2) :: rest, listed, a, w, hc, hp, h => by
    simp only [planOK, Bool.and_eq_true, beq_iff_eq] at hp
    obtain ⟨h1, h2⟩ := hp
    intro w2 hw2
    refine ⟨fun h0 => (by rw [h0] at h1; cases h1), fun j hj => ?_⟩
    have hm : i ∈ Region.ready md ops listed := by rw [h1]; simp
    rw [h1, List.mem_singleton] at hj
    subst hj
    exact wpOp_mono (fun a' w' h' => ⟨h'.1, wpU_of_run hsel hQ hS rest _ _ _ (hc.set hm) h2 h'.2⟩) (h w2 hw2)
  | (i, _ + 3) :: (j, _) :: rest, listed, a, w, hc, hp, h => by
    simp only [planOK, Bool.and_eq_true, beq_iff_eq] at hp
    obtain ⟨⟨h1, h2, h3⟩, h4⟩ := hp
    have hmi : i ∈ Region.ready md ops listed := by rw [h1]; simp
    have hmj : j ∈ Region.ready md ops listed := by rw [h1]; simp
    have hji : j ∈ Region.ready md ops (listed.setIfInBounds i true) := by rw [h2]; simp
    intro w2 hw2
    refine ⟨fun h0 => (by rw [h0] at h1; cases h1), fun m hm => ?_⟩
    rw [h1] at hm
    simp only [List.mem_cons, List.not_mem_nil, or_false] at hm
    rcases hm with hm | hm
    · subst hm
      refine wpOp_mono (fun a' w' h' => ⟨h'.1, fun w3 hw3 => ⟨fun h0 => (by rw [h0] at h2; cases h2), fun n hn => ?_⟩⟩) (h.1 w2 hw2)
      rw [h2, List.mem_singleton] at hn
      subst hn
      exact wpOp_mono (fun a' w' h' => ⟨h'.1, wpU_of_run hsel hQ hS rest _ _ _ ((hc.set hmi).set hji) h4 h'.2⟩) (h'.2 w3 hw3)
    · subst hm
      refine wpOp_mono (fun a' w' h' => ⟨h'.1, fun w3 hw3 => ⟨fun h0 => (by rw [h0] at h3; cases h3), fun n hn => ?_⟩⟩) (h.2 w2 hw2)
      rw [h3, List.mem_singleton] at hn
      subst hn
      refine wpOp_mono (fun a'' w'' h'' => ⟨h''.1, ?_⟩) (h'.2 w3 hw3)
      by_cases he : n = m
      · subst he
        exact wpU_of_run hsel hQ hS rest _ _ _ ((hc.set hmi).set hji) h4 h''.2
      · rw [Array.setIfInBounds_comm _ _ (Ne.symm he)]
        exact wpU_of_run hsel hQ hS rest _ _ _ ((hc.set hmi).set hji) h4 h''.2

theorem closed_none (n : Nat) : Closed md ops (Array.replicate n false) := by
  intro k o _ hk
  exfalso
  by_cases h : k < n
  · simp [h] at hk
  · simp [h] at hk

/-- **THE LAW**: a region that draws its order, gone through by a plan. S: what the loads and the calls lean on. -/
theorem wp_region_plan {id : Nat} {a : Act} {w : World} (hm : P.follows .mixedOrders = true) (plan : List (Nat × Nat)) (safe : Nat → Bool) (S : World → Prop)
    (hsel : Region.noSelect ops = true) (hlen : plan.length = ops.size) (hp : planOK .any ops safe plan (Array.replicate ops.size false) = true)
    (hQ : ∀ c (a : Act) d u w, Q (.panic c) (a.put d u) w → Q (.panic c) a w) (hS : ∀ w w', S w → Ext w w' → S w')
    (h : runU P ops Q S safe plan a w) : (Code.region id ops true).wp P Q a w := by
  refine wp_region_any hm ?_
  rw [← hlen]
  exact ((wpU_of_run hsel hQ hS plan _ a w (closed_none _) (by rw [hlen]; exact hp) h).up (Ext.draw w)).any

/-- The same, where what is leaned on is: all that was there when the region began is as it was. -/
theorem wp_region_ext {id : Nat} {a : Act} {w : World} (hm : P.follows .mixedOrders = true) (plan : List (Nat × Nat)) (safe : Nat → Bool)
    (hsel : Region.noSelect ops = true) (hlen : plan.length = ops.size) (hp : planOK .any ops safe plan (Array.replicate ops.size false) = true)
    (hQ : ∀ c (a : Act) d u w, Q (.panic c) (a.put d u) w → Q (.panic c) a w)
    (h : runU P ops Q (Ext w) safe plan a w) : (Code.region id ops true).wp P Q a w :=
  wp_region_plan hm plan safe (Ext w) hsel hlen hp hQ (fun _ _ h k => h.trans k) h

theorem runU.up (hS : ∀ w w', S w → Ext w w' → S w') : ∀ {plan : List (Nat × Nat)} {a : Act} {w w' : World}, runU P ops Q S safe plan a w → Ext w w' → runU P ops Q S safe plan a w'
  | [], _, _, _, h, k => fun w2 h2 => h w2 (k.trans h2)
  | (_, 0) :: _, _, _, _, ⟨o, v, ho, hy, hr⟩, k => ⟨o, v, ho, hy, runU.up hS hr k⟩
  | (_, 1) :: _, _, _, _, ⟨o, v, ho, hy, hs, hr⟩, k => ⟨o, v, ho, hy, hS _ _ hs k, runU.up hS hr k⟩
  | (_, 2) :: _, _, _, _, h, k => fun w2 h2 => h w2 (k.trans h2)
  | (_, _ + 3) :: (_, _) :: _, _, _, _, h, k => ⟨fun w2 h2 => h.1 w2 (k.trans h2), fun w2 h2 => h.2 w2 (k.trans h2)⟩

theorem YX.wpList {o : Oper} {rest : List Oper} {v : Value} {a : Act} (hy : YX P ops T o v a) {w : World} (hT : T w)
    (h : ∀ w', Ext w w' → Go.wpList P ops Q rest (a.put o.dst v) w') : Go.wpList P ops Q (o :: rest) a w := by
  unfold Go.wpList
  rcases hy with ⟨hw, hv⟩ | ⟨hw, rfl⟩
  · rw [if_pos hw]
    exact .inl ((hv w hT).upon h)
  · rw [if_neg (by simp [hw])]
    exact h w (Ext.refl _)

theorem wpList_of_run (hS : ∀ w w', S w → Ext w w' → S w') : ∀ (plan : List (Nat × Nat)) (k : Nat) (a : Act) (w : World), plan.map (·.1) = List.range' k (ops.size - k) → plan.all (fun x => decide (x.2 < 3)) = true →
    runU P ops Q S safe plan a w → wpList P ops Q (ops.toList.drop k) a w
  | [], k, a, w, hp, _, h => by
    have hk : ops.size - k = 0 := by have := congrArg List.length hp; simp at this; omega
    rw [List.drop_eq_nil_of_le (by simp; omega)]
    exact h w (Ext.refl _)
  | (i, kind) :: rest, k, a, w, hp, hk, h => by
    simp only [List.all_cons, Bool.and_eq_true, decide_eq_true_eq] at hk
    have hlen : rest.length + 1 = ops.size - k := by have := congrArg List.length hp; simp at this; omega
    have hlt : k < ops.size := by omega
    have hd : ops.toList.drop k = ops[k] :: ops.toList.drop (k + 1) := by
      rw [List.drop_eq_getElem_cons (by simpa using hlt)]
      simp
    have hn : ops.size - k = (ops.size - (k + 1)) + 1 := by omega
    rw [hn, List.range'_succ] at hp
    simp only [List.map_cons, List.cons.injEq] at hp
    obtain ⟨rfl, hp⟩ := hp
    have hi : ops[i]? = some ops[i] := Array.getElem?_eq_getElem hlt
    rw [hd]
    match kind, hk, h with
    | 0, hk, ⟨o, v, ho, hy, hr⟩ =>
      obtain rfl : ops[i] = o := by rw [hi] at ho; exact Option.some.inj ho
      exact hy.wpList trivial fun w' hw' => wpList_of_run hS rest (i + 1) _ w' hp hk.2 (hr.up hS hw')
    | 1, hk, ⟨o, v, ho, hy, hs, hr⟩ =>
      obtain rfl : ops[i] = o := by rw [hi] at ho; exact Option.some.inj ho
      exact hy.wpList hs fun w' hw' => wpList_of_run hS rest (i + 1) _ w' hp hk.2 (hr.up hS hw')
    | m + 3, hk, _ => exact absurd hk.1 (by omega)
    | 2, hk, h =>
      have h1 := h w (Ext.refl _)
      unfold wpOp at h1
      simp only [hi] at h1
      unfold Go.wpList
      by_cases hw : Region.wanted ops[i] (yielded ops a.tmps) = true
      · rw [if_pos hw] at h1 ⊢
        exact h1.imp (Oper.wp_mono fun a' w' h' => wpList_of_run hS rest (i + 1) a' w' hp hk.2 h'.2) id
      · rw [if_neg hw] at h1 ⊢
        exact wpList_of_run hS rest (i + 1) _ w hp hk.2 h1.2

/-- A region in the order of the text, gone through in the same way. -/
theorem wp_region_in {id : Nat} {a : Act} {w : World} (plan : List (Nat × Nat)) (safe : Nat → Bool) (hp : plan.map (·.1) = List.range ops.size) (hk : plan.all (fun x => decide (x.2 < 3)) = true)
    (h : runU P ops Q (Ext w) safe plan a w) : (Code.region id ops false).wp P Q a w := by
  refine wp_region_list ?_
  have := wpList_of_run (S := Ext w) (fun _ _ h k => h.trans k) plan 0 a w (by rw [hp, List.range_eq_range']; rfl) hk h
  simpa using this

/-! ### The plan's moves -/
theorem run_nil {a : Act} {w : World} (h : ∀ w2, Ext w w2 → Q .normal a w2) : runU P ops Q S safe [] a w := h
theorem run_pure {i : Nat} {rest : List (Nat × Nat)} {o : Oper} {a a' : Act} {w : World} {v : Value} (hi : ops[i]? = some o)
    (hw : Region.wanted o (yielded ops a.tmps) = true) (hy : ∀ w, (execOp a.eval o).run P w = .ok (.value v) w) (ha : a.put o.dst v = a')
    (h : runU P ops Q S safe rest a' w) : runU P ops Q S safe ((i, 0) :: rest) a w :=
  ⟨o, v, hi, .inl ⟨hw, fun w _ => by rw [hy w]; exact ⟨rfl, Ext.refl _⟩⟩, ha ▸ h⟩
theorem run_off {i : Nat} {rest : List (Nat × Nat)} {o : Oper} {a a' : Act} {w : World} (hi : ops[i]? = some o)
    (hw : Region.wanted o (yielded ops a.tmps) = false) (ha : a.put o.dst undef = a')
    (h : runU P ops Q S safe rest a' w) : runU P ops Q S safe ((i, 0) :: rest) a w :=
  ⟨o, undef, hi, .inr ⟨hw, rfl⟩, ha ▸ h⟩
theorem run_read {i : Nat} {rest : List (Nat × Nat)} {o : Oper} {a a' : Act} {w : World} {v : Value} (hi : ops[i]? = some o)
    (hw : Region.wanted o (yielded ops a.tmps) = true) (hy : ∀ w, S w → (execOp a.eval o).run P w = .ok (.value v) w) (ha : a.put o.dst v = a') (hs : S w)
    (h : runU P ops Q S safe rest a' w) : runU P ops Q S safe ((i, 1) :: rest) a w :=
  ⟨o, v, hi, .inl ⟨hw, fun w hw => by rw [hy w hw]; exact ⟨rfl, Ext.refl _⟩⟩, hs, ha ▸ h⟩
theorem run_call {i f : Nat} {args : Array Value} {rest : List (Nat × Nat)} {o : Oper} {a a' : Act} {w : World} {v : Value} (hi : ops[i]? = some o)
    (hw : Region.wanted o (yielded ops a.tmps) = true) (hy : ∀ w, (execOp a.eval o).run P w = .ok (.enter f args) w)
    (hc : ∀ w, S w → Calls P f args w fun e w' => e = .returned v ∧ Ext w w') (ha : a.put o.dst v = a') (hs : S w)
    (h : runU P ops Q S safe rest a' w) : runU P ops Q S safe ((i, 1) :: rest) a w :=
  ⟨o, v, hi, .inl ⟨hw, fun w hw => by rw [hy w]; exact ⟨Ext.refl _, hc w hw⟩⟩, hs, ha ▸ h⟩
theorem run_do {i : Nat} {rest : List (Nat × Nat)} {o : Oper} {a : Act} {w : World} (hi : ops[i]? = some o)
    (hw : Region.wanted o (yielded ops a.tmps) = true)
    (h : ∀ w2, Ext w w2 → ∀ K : Act → World → Prop, (∀ a' w', (safe i = true → S w2 → S w') → runU P ops Q S safe rest a' w' → K a' w') → o.wp P a w2 K Q) :
    runU P ops Q S safe ((i, 2) :: rest) a w := by
  intro w2 h2
  unfold wpOp
  simp only [hi, hw, if_true]
  exact .inl (h w2 h2 _ fun a' w' hs hr => ⟨hs, hr⟩)
/-- Two allocations that may come up in either order: the walk goes on with two blocks, of which is known that they are new, apart and what they hold. -/
theorem run_allocs {i j m m' : Nat} {rest : List (Nat × Nat)} {oi oj : Oper} {a : Act} {w : World} {xi xj : Obj} {vi vj : List Value} (hi : ops[i]? = some oi) (hj : ops[j]? = some oj)
    (hwi : Region.wanted oi (yielded ops a.tmps) = true) (hwj : Region.wanted oj (yielded ops a.tmps) = true) (hap : oi.apart ops oj = true)
    (hsi : ∀ cs b, oi.op ≠ .select cs b) (hsj : ∀ cs b, oj.op ≠ .select cs b)
    (hyi : ∀ w, (execOp a.eval oi).run P w = .ok (.value (.pointer (some ⟨w.heap.size, 0, none⟩))) (w.alloc xi))
    (hyj : ∀ w, (execOp a.eval oj).run P w = .ok (.value (.pointer (some ⟨w.heap.size, 0, none⟩))) (w.alloc xj))
    (hci : ∀ w : World, Cells (w.alloc xi) w.heap.size vi) (hcj : ∀ w : World, Cells (w.alloc xj) w.heap.size vj)
    (hS : ∀ w w', S w → Ext w w' → S w')
    (h : ∀ b1 b2 W, b1 ≠ b2 → w.heap.size ≤ b1 → w.heap.size ≤ b2 → b1 < W.heap.size → b2 < W.heap.size → Ext w W → Cells W b1 vi → Cells W b2 vj →
      runU P ops Q S safe rest ((a.put oi.dst (.pointer (some ⟨b1, 0, none⟩))).put oj.dst (.pointer (some ⟨b2, 0, none⟩))) W) :
    runU P ops Q S safe ((i, m + 3) :: (j, m') :: rest) a w := by
  obtain ⟨h1, h2, h3⟩ := Oper.apart_spec hap
  have hn : ∀ (w : World) x, Ext w (w.alloc x) := fun w x => (Ext.refl w).alloc x
  have hz : ∀ (w : World) x, (w.alloc x).heap.size = w.heap.size + 1 := fun w x => by simp
  constructor
  · intro w2 hw2
    unfold wpOp
    simp only [hi, hwi, if_true]
    refine .inl ?_
    unfold Oper.wp
    rw [hyi w2]
    refine ⟨fun _ hs => hS _ _ hs (hn _ _), fun w3 hw3 => ?_⟩
    simp only [hj]
    rw [wanted_put oj a oi.dst _ h1, if_pos hwj]
    refine .inl ?_
    rw [execOp_put oj hsj a oi.dst _ h1, hyj w3]
    have z1 := hw2.size
    have z2 := hw3.size
    rw [hz] at z2
    exact ⟨fun _ hs => hS _ _ hs (hn _ _), h _ _ _ (by omega) z1 (by omega) (by rw [hz]; omega) (by rw [hz]; omega) (hw2.trans ((hn _ _).trans (hw3.trans (hn _ _)))) (((hci w2).ext hw3).ext (hn _ _)) (hcj w3)⟩
  · intro w2 hw2
    unfold wpOp
    simp only [hj, hwj, if_true]
    refine .inl ?_
    unfold Oper.wp
    rw [hyj w2]
    refine ⟨fun _ hs => hS _ _ hs (hn _ _), fun w3 hw3 => ?_⟩
    simp only [hi]
    rw [wanted_put oi a oj.dst _ h3, if_pos hwi]
    refine .inl ?_
    rw [execOp_put oi hsi a oj.dst _ h3, hyi w3]
    have z1 := hw2.size
    have z2 := hw3.size
    rw [hz] at z2
    refine ⟨fun _ hs => hS _ _ hs (hn _ _), ?_⟩
    rw [← Act.put_comm a _ _ h2]
    exact h _ _ _ (by omega) (by omega) z1 (by rw [hz]; omega) (by rw [hz]; omega) (hw2.trans ((hn _ _).trans (hw3.trans (hn _ _)))) (hci w3) (((hcj w2).ext hw3).ext (hn _ _))
end
end Go.Proofs.Ytjjapblpmpidcaa.UReg
