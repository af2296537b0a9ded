import Derived.Test.YtjjapblpmpidcaaJC
import Derived.Maps.OwnSet
import Derived.Maps.OwnOps
set_option linter.unusedVariables false
set_option linter.unusedSimpArgs false
namespace Go.Proofs.Ytjjapblpmpidcaa
open Go.RowKit UReg

/-! ### The two maps of TableStays -/
abbrev IT : TypeId := 3
abbrev Dat : Type := DataW Unit
def HasAt (w : World) (b n : Nat) (D : Dat) : Prop := w.ownsMap Try.prog IT (plainElem Try.prog 26) b n D
def GoneAt (w : World) (b n : Nat) (D : Dat) : Prop := w.ownsMap Try.prog IT (plainElem Try.prog 3) b n D
def kI (a : Int) : Lit := .int .i64 a
def zU : Dat := .lit (.int .u64 0)
def zI : Dat := .lit (.int .i64 0)
theorem kI_ne {a b : Int} (h : a ≠ b) : kI a ≠ kI b := fun e => h (by unfold kI at e; injection e)
theorem intK : Maps.Keyed Try.prog IT := Maps.int_keyed Try.underlying3
theorem map_same' {w w' : World} {R : Value → Option (Dat × List MemPlace)} {b n : Nat} {D : Dat} (h : w.ownsMap Try.prog IT R b n D) (e : w'.heap[b]? = w.heap[b]?) : w'.ownsMap Try.prog IT R b n D := by
  obtain ⟨es, clock, hb, rest⟩ := h
  exact ⟨es, clock, e.trans hb, rest⟩
theorem map_tab {e : TypeId} {B tb : Nat} {w : World} {v : Value} {L : List (Int × Int)} {nx : Int} {R : Value → Option (Dat × List MemPlace)} {b n : Nat} {D : Dat} (h : w.ownsMap Try.prog IT R b n D) (t : Tab e B w tb v L nx) : Apart b (.slice none 0 0) tb v := by
  obtain ⟨es, clock, hb, _⟩ := h
  refine ⟨fun e => ?_, by simp [Value.ownBlock], fun e => ?_, by simp [Value.ownBlock]⟩
  · subst e
    have := (t.cells 0 (by simp)).1
    simp [World.cell?, hb] at this
  · rcases t.own.2 with ⟨rfl, _⟩ | ⟨g, cap, cur, rfl, _, hh, _⟩
    · cases e
    · simp only [Value.ownBlock, Option.some.injEq] at e
      subst e
      rw [hb] at hh
      cases hh
theorem map_cells {w : World} {R : Value → Option (Dat × List MemPlace)} {b n tb : Nat} {D : Dat} {x : Value} {vs : List Value} (h : w.ownsMap Try.prog IT R b n D) (t : Cells w tb (x :: vs)) : b ≠ tb := by
  obtain ⟨es, clock, hb, _⟩ := h
  intro e
  subst e
  have := (t 0 (by simp)).1
  simp [World.cell?, hb] at this
theorem map_chg {w w' : World} {R : Value → Option (Dat × List MemPlace)} {b n tb : Nat} {D : Dat} {v v' : Value} (h : w.ownsMap Try.prog IT R b n D) (a : Apart b (.slice none 0 0) tb v) (c : Chg tb v v' w w') : w'.ownsMap Try.prog IT R b n D :=
  map_same' h (c.block b h.lt a.one a.three)
theorem map_ext' {w w' : World} {R : Value → Option (Dat × List MemPlace)} {b n : Nat} {D : Dat} (h : w.ownsMap Try.prog IT R b n D) (x : Ext w w') : w'.ownsMap Try.prog IT R b n D := map_same' h (x.block b h.lt)
theorem grown_chg {w w' : World} {b : Nat} (g : w.grownBy w' (some b)) : Chg b (.slice none 0 0) (.slice none 0 0) w w' :=
  ⟨g.os, g.tape, g.output, g.size, fun k hk hne _ => g.block k hk (fun e => hne (Option.some.inj e)), .inl rfl⟩
theorem map_map {w w' : World} {R : Value → Option (Dat × List MemPlace)} {b b' n : Nat} {D : Dat} (h : w.ownsMap Try.prog IT R b n D) (hne : b ≠ b') (g : w.grownBy w' (some b')) : w'.ownsMap Try.prog IT R b n D :=
  map_same' h (g.block b h.lt (fun e => hne (Option.some.inj e)))

theorem zero64 (w : World) : (zeroValue 26).run Try.prog w = .ok (.int .u64 0) w := by kernel_rfl
theorem zeroI (w : World) : (zeroValue 3).run Try.prog w = .ok (.int .i64 0) w := by kernel_rfl
theorem has_look {w : World} {b n : Nat} {D : Dat} (h : HasAt w b n D) {a : Int} (ha : (Lit.int .i64 a).wf = true) :
    ∃ c, (Instr.lookup 47 (.map (some b)) (.int .i64 a) true).run Try.prog w = .ok (.tuple #[.int .u64 c, .bool (Maps.has D (kI a))]) w ∧ D.atKey (kI a) zU = .lit (.int .u64 c) := by
  obtain ⟨v, ps, hrun, hv⟩ := h.look_ok intK Try.underlying47 (zero64 w) (plainElem_int Try.underlying26 (by decide)) (Maps.keyOf_int_mk Try.underlying3 ha)
  obtain ⟨c, rfl, hc, _⟩ := plainElem_int_inv Try.underlying26 hv
  simp only [Prod.mk.injEq] at hc
  exact ⟨c, hrun, hc.1⟩
theorem gone_look {w : World} {b n : Nat} {D : Dat} (h : GoneAt w b n D) {a : Int} (ha : (Lit.int .i64 a).wf = true) :
    ∃ c, (Instr.lookup 48 (.map (some b)) (.int .i64 a) false).run Try.prog w = .ok (.int .i64 c) w ∧ D.atKey (kI a) zI = .lit (.int .i64 c) := by
  obtain ⟨c, h1, h2, _⟩ := h.lookup_int intK Try.underlying48 Try.underlying3 (zeroI w) (Maps.keyOf_int_mk Try.underlying3 ha)
  exact ⟨c, h1, h2⟩
theorem has_put {w : World} {b n : Nat} {D : Dat} (h : HasAt w b n D) (hn : n < 1000) {a x : Int} (ha : (Lit.int .i64 a).wf = true) (hx : (Lit.int .u64 x).wf = true) :
    ∃ w', (Instr.mapUpdate 47 (.map (some b)) (.int .i64 a) (.int .u64 x)).run Try.prog w = .ok () w' ∧ HasAt w' b (n + 1) (D.put (kI a) (.lit (.int .u64 x))) ∧ w.grownBy w' (some b) :=
  h.update intK Try.underlying47 (by unfold maxLen; omega) (Maps.keyOf_int_mk Try.underlying3 ha) (plainElem_int Try.underlying26 hx)
theorem gone_put {w : World} {b n : Nat} {D : Dat} (h : GoneAt w b n D) (hn : n < 1000) {a : Int} (ha : (Lit.int .i64 a).wf = true) :
    ∃ w', (Instr.mapUpdate 48 (.map (some b)) (.int .i64 a) (.int .i64 1)).run Try.prog w = .ok () w' ∧ GoneAt w' b (n + 1) (D.put (kI a) (.lit (.int .i64 1))) ∧ w.grownBy w' (some b) :=
  h.update intK Try.underlying48 (by unfold maxLen; omega) (Maps.keyOf_int_mk Try.underlying3 ha) (plainElem_int Try.underlying3 (by decide))
theorem has_del {w : World} {b n : Nat} {D : Dat} (h : HasAt w b n D) {a : Int} (ha : (Lit.int .i64 a).wf = true) (ty : TypeId) :
    ∃ w', (Builtin.delete_ #[47, IT] ty #[.map (some b), .int .i64 a]).run Try.prog w = .ok (.tuple #[]) w' ∧ HasAt w' b n (D.del (kI a)) ∧ w.grownBy w' (some b) := by
  obtain ⟨w', h1, h2, h3⟩ := h.drop intK Try.underlying47 (Maps.keyOf_int_mk Try.underlying3 ha) ty
  exact ⟨w', h1, h2, h3.grown⟩
theorem has_len' {w : World} {b n : Nat} {D : Dat} (h : HasAt w b n D) (ty : TypeId) : (Builtin.len_ #[47] ty #[.map (some b)]).run Try.prog w = .ok (.int .i64 (Maps.size D)) w := h.len Try.underlying47 ty

/-! ### What the maps say of the table -/
structure Rep (D : Dat) (L : List (Int × Int)) : Prop where
  has : ∀ a, Maps.has D (kI a) = has a L
  val : ∀ a, Go.Proofs.Ytjjapblpmpidcaa.has a L = true → D.atKey (kI a) zU = .lit (.int .u64 (val a L))
  size : Maps.size D = L.length
def GoneOk (G : Dat) (nx : Int) : Prop := ∀ a, nx ≤ a → G.atKey (kI a) zI = zI
theorem has_app (a n x : Int) : ∀ L : List (Int × Int), has a (L ++ [(n, x)]) = (has a L || decide (n = a))
  | [] => by simp [has]
  | r :: L => by rw [List.cons_append, has, has, has_app a n x L, Bool.or_assoc]
theorem val_app (a n x : Int) : ∀ L : List (Int × Int), val a (L ++ [(n, x)]) = if has a L then val a L else if n = a then x else 0
  | [] => by simp [has, val]
  | r :: L => by
    rw [List.cons_append, val, val_app a n x L, has, val]
    by_cases h : r.1 = a
    · simp [h]
    · simp [h]
theorem has_drop (a h : Int) : ∀ L : List (Int × Int), has a (dropL h L) = (has a L && decide (a ≠ h))
  | [] => by simp [has, dropL]
  | r :: L => by
    have ih := has_drop a h L
    unfold dropL at *
    by_cases e : r.1 = h
    · rw [List.filter_cons_of_neg (by simp [e]), ih, has]
      by_cases e2 : a = h
      · simp [e2]
      · rw [decide_eq_false (by omega : ¬ r.1 = a), Bool.false_or]
    · rw [List.filter_cons_of_pos (by simp [e]), has, has, ih]
      by_cases e2 : r.1 = a
      · simp [e2]; omega
      · simp [e2]
theorem val_drop (a h : Int) (hne : a ≠ h) : ∀ L : List (Int × Int), val a (dropL h L) = val a L
  | [] => by simp [val, dropL]
  | r :: L => by
    have ih := val_drop a h hne L
    unfold dropL at *
    by_cases e : r.1 = h
    · rw [List.filter_cons_of_neg (by simp [e]), ih, val, if_neg (by omega)]
    · rw [List.filter_cons_of_pos (by simp [e]), val, val, ih]
theorem Rep.nil : Rep (.map []) [] := ⟨fun a => rfl, (fun a h => by cases h), rfl⟩
theorem Rep.put {D : Dat} {L : List (Int × Int)} (h : Rep D L) (t : Maps.Tidy D) {n : Int} (x : Int) (hn : Go.Proofs.Ytjjapblpmpidcaa.has n L = false) : Rep (D.put (kI n) (.lit (.int .u64 x))) (L ++ [(n, x)]) := by
  have hk : WideAt.IsKeyLit (kI n) := trivial
  refine ⟨fun a => ?_, fun a ha => ?_, ?_⟩
  · rw [has_app]
    by_cases e : a = n
    · subst e
      rw [Maps.has_put_same t.isMap hk]
      simp
    · rw [Maps.has_put_other (kI_ne e), h.has a, decide_eq_false (by omega), Bool.or_false]
  · rw [val_app]
    by_cases e : a = n
    · subst e
      rw [Maps.atKey_put_same t.isMap hk, hn]
      simp
    · rw [has_app, decide_eq_false (by omega), Bool.or_false] at ha
      rw [Maps.atKey_put_other (kI_ne e), h.val a ha, ha]
      simp
  · rw [Maps.size_put t, h.has n, hn, h.size]
    simp
theorem Rep.del {D : Dat} {L : List (Int × Int)} (h : Rep D L) (t : Maps.Tidy D) (hs : L.Pairwise (fun a b => a.1 < b.1)) {n : Int} (hn : Go.Proofs.Ytjjapblpmpidcaa.has n L = true) : Rep (D.del (kI n)) (dropL n L) := by
  refine ⟨fun a => ?_, fun a ha => ?_, ?_⟩
  · rw [has_drop]
    by_cases e : a = n
    · subst e
      rw [Maps.has_del_same]
      simp
    · rw [Maps.has_del_other (kI_ne e), h.has a, decide_eq_true e, Bool.and_true]
  · rw [has_drop, Bool.and_eq_true, decide_eq_true_iff] at ha
    rw [Maps.atKey_del_other (kI_ne ha.2), val_drop a n ha.2, h.val a ha.1]
  · have h1 := Maps.size_del (k := kI n) t
    rw [h.has n, hn, h.size] at h1
    obtain ⟨hj, _⟩ := (has_iff n L hs).1 hn
    rw [← drop_erase n L hs hn, eraseIdx_len L _ hj]
    simp only [if_true] at h1
    omega
theorem GoneOk.nil : GoneOk (.map []) 0 := fun a _ => rfl
theorem GoneOk.put {G : Dat} {nx n : Int} (h : GoneOk G nx) (hn : n < nx) (d : Dat) : GoneOk (G.put (kI n) d) nx := fun a ha => by
  rw [Maps.atKey_put_other (kI_ne (by omega)), h a ha]
theorem GoneOk.mono {G : Dat} {nx mx : Int} (h : GoneOk G nx) (hm : nx ≤ mx) : GoneOk G mx := fun a ha => h a (by omega)
theorem wf_i64 {a : Int} (h0 : 0 ≤ a) (h1 : a ≤ 2147483647) : (Lit.int .i64 a).wf = true := by
  simp [Lit.wf, IntKind.min, IntKind.max, IntKind.signed, IntKind.bits]
  omega
theorem has_above {L : List (Int × Int)} {nx : Int} (w : WT L nx) {a : Int} (h : nx ≤ a) : has a L = false :=
  has_not a L fun j hj => by have := w.mem _ (List.getElem_mem hj); omega
end Go.Proofs.Ytjjapblpmpidcaa
