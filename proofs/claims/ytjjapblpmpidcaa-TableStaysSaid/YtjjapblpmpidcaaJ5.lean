import Derived.Test.YtjjapblpmpidcaaJ4
import Derived.Test.YtjjapblpmpidcaaH7
set_option linter.unusedVariables false
set_option linter.unusedSimpArgs false
namespace Go.Proofs.Ytjjapblpmpidcaa
open Go.RowKit UReg

/-! ### slices.Delete of one row -/
theorem UReg.OwnP.raw {e : TypeId} {w : World} {B g n cap : Nat} {L : List (Int × Int)} (h : OwnP e w B (.slice (some ⟨g, 0, none⟩) n cap) L) :
    ∃ cur, w.heap[g]? = some (.cells cur e (0, 0)) ∧ B ≤ g ∧ n = L.length ∧ n ≤ cap ∧ cap ≤ maxLen ∧ cur.size = cap * 2 ∧ cur.toList.take (n * 2) = rowC L := by
  rcases h.2 with ⟨e, _⟩ | ⟨g', cap', cur, e, hb, hh, h1, h2, h3, h4⟩
  · cases e
  · simp only [Value.slice.injEq, Option.some.injEq, Addr.mk.injEq] at e
    obtain ⟨⟨rfl, _, _⟩, e2, rfl⟩ := e
    subst e2
    exact ⟨cur, hh, hb, rfl, h1, h2, h3, h4⟩
theorem UReg.OwnP.ofRaw {e : TypeId} {w : World} {B g n cap : Nat} {L : List (Int × Int)} {cur : Array Value} (hh : w.heap[g]? = some (.cells cur e (0, 0))) (hb : B ≤ g) (hn : n = L.length) (h1 : n ≤ cap) (h2 : cap ≤ maxLen) (h3 : cur.size = cap * 2) (h4 : cur.toList.take (n * 2) = rowC L) :
    OwnP e w B (.slice (some ⟨g, 0, none⟩) n cap) L := by
  subst hn
  exact ⟨rowC_length L, .inr ⟨g, cap, cur, rfl, hb, hh, h1, h2, h3, h4⟩⟩
theorem cells_of_raw {w : World} {g : Nat} {e : TypeId} {cur : Array Value} (hh : w.heap[g]? = some (.cells cur e (0, 0))) (j : Nat) (hj : j < cur.size) : (w.cell? ⟨g, j, none⟩).isSome = true ∧ w.frozen? ⟨g, j, none⟩ = false := by
  constructor
  · simp [World.cell?, hh, hj]
  · simp [World.frozen?, hh]
/-- A store behind a row's end. -/
theorem UReg.OwnP.over {e : TypeId} {w : World} {B g n cap : Nat} {L : List (Int × Int)} (h : OwnP e w B (.slice (some ⟨g, 0, none⟩) n cap) L) (o : Nat) (ho : n * 2 ≤ o) (u : Value) : OwnP e (w.setCell ⟨g, o, none⟩ u) B (.slice (some ⟨g, 0, none⟩) n cap) L := by
  obtain ⟨cur, hh, hb, hn, h1, h2, h3, h4⟩ := h.raw
  rw [setCell_eq_setRow w g o cur e (0, 0) u hh]
  refine .ofRaw (setRow_heap w g cur _ e (0, 0) hh) hb hn h1 h2 (by simpa using h3) ?_
  rw [← h4]
  simp only [Array.toList_setIfInBounds]
  rw [List.take_set_of_le ho]
theorem eraseIdx_len (L : List (Int × Int)) (I : Nat) (hI : I < L.length) : (L.eraseIdx I).length = L.length - 1 := by rw [List.length_eraseIdx, if_pos hI]
theorem rowC_erase (L : List (Int × Int)) (I : Nat) : rowC (L.eraseIdx I) = rowC (L.take I) ++ rowC (L.drop (I + 1)) := by rw [List.eraseIdx_eq_take_drop_succ, rowC_app]

section
variable {ops : Array Oper} {rest : List Oper} {o : Oper} {a : Act} {Q : Exit → Act → World → Prop}
theorem wpList_del (hgd : o.guard = none) (s x : Operand) (ho : o.op = .call { callee := .builtin .append, args := #[s, x], argTypes := #[111, 111] }) (W : World) (B g n N m cap I c : Nat) (L : List (Int × Int)) (ad : Addr)
    (hs : a.eval s = .slice (some ⟨g, 0, none⟩) I cap) (hx : a.eval x = .slice (some ad) m c) (had : n = I + 1 ∨ ad = ⟨g, (I + 1) * 2, none⟩) (hown : OwnP RT W B (.slice (some ⟨g, 0, none⟩) n cap) L) (hm : m + (I + 1) = n) (hN : N + 1 = n)
    (h : ∀ w', OwnP RT w' B (.slice (some ⟨g, 0, none⟩) N cap) (L.eraseIdx I) → Grew W w' (.slice (some ⟨g, 0, none⟩) n cap) (.slice (some ⟨g, 0, none⟩) N cap) → w'.heap.size = W.heap.size →
      (w'.cell? ⟨g, N * 2, none⟩).isSome = true → (w'.cell? ⟨g, N * 2 + 1, none⟩).isSome = true → w'.frozen? ⟨g, N * 2, none⟩ = false → w'.frozen? ⟨g, N * 2 + 1, none⟩ = false →
      wpList Try.prog ops Q rest (a.put o.dst (.slice (some ⟨g, 0, none⟩) N cap)) w') : wpList Try.prog ops Q (o :: rest) a W := by
  obtain ⟨i0, hinfo, hp⟩ : ∃ i0, Try.prog.info? RT = some i0 ∧ (i0.zero.map (·.cells.size), i0.size, i0.bytes) = (some 2, 2, 16) := by
    have info := rowInfo
    cases hi : Try.prog.info? RT with
    | none => rw [hi] at info; cases info
    | some i0 => rw [hi] at info; exact ⟨i0, rfl, Option.some.inj info⟩
  simp only [Prod.mk.injEq] at hp
  obtain ⟨_, hz1, _⟩ := hp
  obtain ⟨cur, hh, hb, hn, h1, h2, h3, h4⟩ := hown.raw
  have hnews : ∀ j u, (rowC (L.drop (I + 1)))[j]? = some u → W.cell? (ad.add j) = some u := by
    intro j u hj
    rcases had with rfl | rfl
    · rw [List.drop_eq_nil_of_le (by omega)] at hj
      cases hj
    · rw [show (⟨g, (I + 1) * 2, none⟩ : Addr).add j = ⟨g, (I + 1) * 2 + j, none⟩ from by unfold Addr.add; split <;> simp_all]
      rw [← rowC_drop, List.getElem?_drop, ← h4, List.getElem?_take] at hj
      split at hj
      · simp only [Array.getElem?_toList] at hj
        simp [World.cell?, hh, hj]
      · cases hj
  have hlen : (rowC (L.drop (I + 1))).length = m * i0.size := by rw [rowC_length, List.length_drop, hz1, show L.length - (I + 1) = m by omega]
  refine wpList_plain hgd fun K hK => ?_
  have hrun := run_append_room (P := Try.prog) W 111 o.type RT i0 Try.underlying111 hinfo g I cap cur hh ad m c (rowC (L.drop (I + 1))) hlen hnews (rowC_one _) (by omega) (by rw [hlen, hz1, h3, ← Nat.add_mul]; exact Nat.mul_le_mul_right _ (by omega))
  rw [show I + m = N by omega] at hrun
  unfold Oper.wp execOp
  simp only [ho, resolve, invoke, builtin, Sem.run_bind, Sem.run_pure, Result.andThen_ok, List.map_toArray, List.map_cons, List.map_nil, hs, hx, hrun]
  have hh2 := setRow_heap W g cur (cur.toList.take (I * i0.size) ++ rowC (L.drop (I + 1)) ++ cur.toList.drop (I * i0.size + (rowC (L.drop (I + 1))).length)).toArray RT (0, 0) hh
  have hsz : (cur.toList.take (I * i0.size) ++ rowC (L.drop (I + 1)) ++ cur.toList.drop (I * i0.size + (rowC (L.drop (I + 1))).length)).toArray.size = cap * 2 := by
    simp only [List.size_toArray, List.length_append, List.length_take, List.length_drop, Array.length_toList, hlen, hz1]
    rw [h3]; omega
  obtain ⟨c1, f1⟩ := cells_of_raw hh2 (N * 2) (by rw [hsz]; omega)
  obtain ⟨c2, f2⟩ := cells_of_raw hh2 (N * 2 + 1) (by rw [hsz]; omega)
  refine hK _ _ (h _ ?_ ⟨rfl, rfl, rfl, by simp, fun k _ hk => setRow_other W g k _ (fun e => hk (by rw [e]; rfl)), .inl rfl⟩ (by simp) c1 c2 f1 f2)
  refine .ofRaw hh2 hb (by rw [eraseIdx_len _ _ (by omega)]; omega) (by omega) h2 hsz ?_
  have e1 : cur.toList.take (I * 2) = rowC (L.take I) := by
    rw [← rowC_take, ← h4, List.take_take, Nat.min_eq_left (by omega)]
  rw [rowC_erase, hz1, e1]
  simp only []
  rw [List.take_append_of_le_length, List.take_of_length_le]
  · rw [List.length_append, rowC_length, rowC_length, List.length_take, List.length_drop]; omega
  · rw [List.length_append, rowC_length, rowC_length, List.length_take, List.length_drop]; omega
theorem zeroRow (w : World) : (zeroValue RT).run Try.prog w = .ok (.agg #[.int .i64 0, .int .u64 0]) w := by kernel_rfl
theorem wpList_clearP (hgd : o.guard = none) (x : Operand) (ho : o.op = .call { callee := .builtin .clear, args := #[x], argTypes := #[111] }) (W : World) (g off c : Nat) (hx : a.eval x = .slice (some ⟨g, off, none⟩) 1 c)
    (c1 : (W.cell? ⟨g, off, none⟩).isSome = true) (c2 : (W.cell? ⟨g, off + 1, none⟩).isSome = true) (f1 : W.frozen? ⟨g, off, none⟩ = false) (f2 : W.frozen? ⟨g, off + 1, none⟩ = false)
    (h : wpList Try.prog ops Q rest (a.put o.dst (.tuple #[])) ((W.setCell ⟨g, off, none⟩ (.int .i64 0)).setCell ⟨g, off + 1, none⟩ (.int .u64 0))) : wpList Try.prog ops Q (o :: rest) a W := by
  refine wpList_plain hgd fun K hK => ?_
  have hst := run_storeCells_cells (P := Try.prog) g off [.int .i64 0, .int .u64 0] 0 W
    (by intro j hj; match j, hj with | 0, _ => simpa using c1 | 1, _ => simpa using c2)
    (by intro j hj; match j, hj with | 0, _ => simpa using f1 | 1, _ => simpa using f2) (by intro v hv; simp at hv; rcases hv with rfl | rfl <;> rfl)
  simp only [Nat.add_zero] at hst
  have hrun : (Builtin.clear_ #[111] o.type #[.slice (some ⟨g, off, none⟩) 1 c]).run Try.prog W = .ok (.tuple #[]) ((W.setCell ⟨g, off, none⟩ (.int .i64 0)).setCell ⟨g, off + 1, none⟩ (.int .u64 0)) := by
    have hz : (Builtin.zeroCells (Value.agg #[.int .i64 0, .int .u64 0]).cells 1).toList = [.int .i64 0, .int .u64 0] := by kernel_rfl
    simp [Builtin.clear_, run_underlying Try.underlying111, zeroRow, hz, hst, World.setCells]
  unfold Oper.wp execOp
  simp only [ho, resolve, invoke, builtin, Sem.run_bind, Sem.run_pure, Result.andThen_ok, List.map_toArray, List.map_cons, List.map_nil, hx, hrun]
  exact hK _ _ h
end
end Go.Proofs.Ytjjapblpmpidcaa
