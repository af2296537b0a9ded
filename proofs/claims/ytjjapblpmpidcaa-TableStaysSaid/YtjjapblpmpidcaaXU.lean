import Derived.Test.YtjjapblpmpidcaaX0
set_option linter.unusedVariables false
set_option linter.unusedSimpArgs false
namespace Go.Proofs.Ytjjapblpmpidcaa.UReg
open Go Go.RowKit

/-! ### Which block a row lies in, behind an append -/
/-- Behind an append the row lies where it lay, or in a new block. -/
theorem append_block {P : Program} (w : World) (base : Nat) (t ty e : TypeId) (i : TypeInfo) (z : Value) (ht : P.underlying t = some (.slice e)) (hi : P.info? e = some i) (hz : i.zero = some z)
    (hzs : z.cells.size = i.size) (hsz : 0 < i.size)
    (v : Value) (n : Nat) (xs : List Value) (hown : w.ownsRow base e i.size v n xs)
    (a : Addr) (m c : Nat) (news : List Value) (hl : news.length = m * i.size) (hnews : ∀ j u, news[j]? = some u → w.cell? (a.add j) = some u) (h1 : ∀ u ∈ news, u.oneCell' = true)
    (h63 : n + m ≤ maxLen) (hbytes : (n + m) * i.bytes ≤ 140737488355328) {v' : Value} {w' : World}
    (hr : (Builtin.append_ #[t, t] ty #[v, .slice (some a) m c]).run P w = .ok v' w') : v'.ownBlock = v.ownBlock ∨ ∀ g, v'.ownBlock = some g → w.heap.size ≤ g := by
  have hsmall : n + m ≤ 9223372036854775807 := by simp only [maxLen] at h63; omega
  rcases hown.2 with ⟨rfl, rfl⟩ | ⟨g, cap, cur, rfl, hbg, hg, hnc, hcm, hcs, htake⟩
  · have hx : xs = [] := List.eq_nil_of_length_eq_zero (by simpa using hown.1)
    subst hx
    obtain ⟨v2, w2, hr2, ho2, _, _⟩ := run_append_own (P := P) w w.heap.size t ty e i z i.size i.bytes ht hi hz rfl rfl hzs hsz (.slice none 0 0) 0 [] (World.ownsRow_nil _ _ _ _) a m c news hl hnews h1 h63 hbytes (Nat.le_refl _)
    rw [hr] at hr2
    injection hr2 with e1 e2
    subst e1 e2
    exact .inr fun k hk => own_ge ho2 k hk
  · by_cases hroom : n + m ≤ cap
    · have hfit : n * i.size + news.length ≤ cur.size := by rw [hl, hcs, ← Nat.add_mul]; exact Nat.mul_le_mul_right _ hroom
      have hr2 := run_append_room (P := P) w t ty e i ht hi g n cap cur hg a m c news hl hnews h1 hroom hfit
      rw [hr] at hr2
      injection hr2 with e1 e2
      subst e1
      exact .inl rfl
    · have holds : ∀ j u, xs[j]? = some u → w.cell? ((⟨g, 0, none⟩ : Addr).add j) = some u := hown.cells (g := g) rfl
      have hr2 := run_append_grow (P := P) w t ty e i z ht hi hz ⟨g, 0, none⟩ n cap xs hown.1 holds a m c news hl hnews (by omega) (by omega) (growslice_fits (by omega) hbytes)
      rw [hr] at hr2
      injection hr2 with e1 e2
      subst e1
      refine .inr fun k hk => ?_
      simp only [Value.ownBlock, Option.some.injEq] at hk
      omega

/-- What an append to a row of the call's own leaves as it was. -/
structure Grew (W w' : World) (acc v' : Value) : Prop where
  os : w'.os = W.os
  tape : w'.tape = W.tape
  output : w'.output = W.output
  size : W.heap.size ≤ w'.heap.size
  block : ∀ k, k < W.heap.size → acc.ownBlock ≠ some k → w'.heap[k]? = W.heap[k]?
  own : v'.ownBlock = acc.ownBlock ∨ ∀ g, v'.ownBlock = some g → W.heap.size ≤ g
theorem Grew.cells {W w' : World} {acc v' : Value} (h : Grew W w' acc v') {b : Nat} {vs : List Value} (hb : acc.ownBlock ≠ some b) (c : Cells W b vs) : Cells w' b vs := fun j hj => by
  obtain ⟨c1, c2⟩ := c j hj
  have hlt : b < W.heap.size := World.block_lt_of_cell? W ⟨b, j, none⟩ c1
  have key := h.block b hlt hb
  exact ⟨(World.cell?_of_block (w := W) (a := ⟨b, j, none⟩) key).trans c1, (World.frozen?_of_block (w := W) (a := ⟨b, j, none⟩) key).trans c2⟩
theorem Grew.ext {A W w' : World} {acc v' : Value} (h : Grew W w' acc v') (x : Ext A W) (ha : ∀ g, acc.ownBlock = some g → A.heap.size ≤ g) : Ext A w' :=
  ⟨h.os.trans x.os, h.tape.trans x.tape, h.output.trans x.output, Nat.le_trans x.size h.size, fun i hi => (h.block i (Nat.lt_of_lt_of_le hi x.size) (fun e => by have := ha i e; omega)).trans (x.block i hi)⟩
theorem Grew.ne {W w' : World} {acc v' : Value} (h : Grew W w' acc v') {b : Nat} (hb : acc.ownBlock ≠ some b) (hlt : b < W.heap.size) : v'.ownBlock ≠ some b := fun e => by
  rcases h.own with h | h
  · exact hb (h ▸ e)
  · have := h b e; omega

section
variable (k : IntKind) (t e : TypeId) (bytes : Nat)
def OwnK (w : World) (base : Nat) (v : Value) (xs : List Int) : Prop := w.ownsRow base e 1 v xs.length (xs.map (Value.int k))
end
theorem OwnK.reads {k : IntKind} {e : TypeId} {w : World} {base : Nat} {v : Value} {xs : List Int} (h : OwnK k e w base v xs) : Reads w k v xs := Reads.of_own h
theorem OwnK.ext {k : IntKind} {e : TypeId} {w w' : World} {base : Nat} {v : Value} {xs : List Int} (h : OwnK k e w base v xs) (x : Ext w w') : OwnK k e w' base v xs := own_ext h x
theorem OwnK.nil (k : IntKind) (e : TypeId) (w : World) (base : Nat) : OwnK k e w base (.slice none 0 0) [] := own_nil _ _ _ _
theorem OwnK.ge {k : IntKind} {e : TypeId} {w : World} {base : Nat} {v : Value} {xs : List Int} (h : OwnK k e w base v xs) : ∀ g, v.ownBlock = some g → base ≤ g := own_ge h
theorem OwnK.lit (k : IntKind) (e : TypeId) (w : World) (base : Nat) (xs : List Int) (hb : base ≤ w.heap.size) (hl : xs.length ≤ 100000) : OwnK k e (w.alloc (.cells (xs.map (Value.int k)).toArray e)) base (.slice (some ⟨w.heap.size, 0, none⟩) xs.length xs.length) xs := by
  have h := World.ownsRow_lit (e := e) (size := 1) w (xs.map (Value.int k)).toArray xs.length hb (by unfold maxLen; omega) (by simp)
  exact h
theorem OwnK.mono {k : IntKind} {e : TypeId} {w : World} {base b' : Nat} {v : Value} {xs : List Int} (h : OwnK k e w base v xs) (hb : b' ≤ base) : OwnK k e w b' v xs := by
  refine ⟨h.1, ?_⟩
  rcases h.2 with hn | ⟨g, cap, cur, hv, hg, rest⟩
  · exact .inl hn
  · exact .inr ⟨g, cap, cur, hv, by omega, rest⟩
theorem OwnK.set {k : IntKind} {e : TypeId} {w : World} {base : Nat} {v : Value} {xs : List Int} (h : OwnK k e w base v xs) {a : Addr} (ha : v.ownBlock ≠ some a.block) (u : Value) : OwnK k e (w.setCell a u) base v xs := by
  refine ⟨h.1, ?_⟩
  rcases h.2 with hn | ⟨g, cap, cur, hv, hg, hh, rest⟩
  · exact .inl hn
  · refine .inr ⟨g, cap, cur, hv, hg, ?_, rest⟩
    rw [Below.heap_setCell _ _ _ _ (fun c => ha (by rw [hv, ← c]; rfl))]
    exact hh
theorem reads_oneK (k : IntKind) (w : World) (d : Int) (t : TypeId) : Reads (w.alloc (.cells #[.int k d] t)) k (.slice (some ⟨w.heap.size, 0, none⟩) 1 1) [d] :=
  .inr ⟨w.heap.size, 1, rfl, fun j hj => by
    have : j = 0 := by simp at hj; omega
    subst this
    simp⟩

/-- 'append(xs, ys...)', xs a row of the call's own. -/
theorem wpList_appendK {k : IntKind} {t e : TypeId} {bytes : Nat} (hu : Try.prog.underlying t = some (.slice e)) (info : (Try.prog.info? e).map (fun i => (i.zero, i.size, i.bytes)) = some (some (.int k 0), 1, bytes)) (hbyt : bytes ≤ 8)
    {ops : Array Oper} {rest : List Oper} {o : Oper} {a : Act} {Q : Exit → Act → World → Prop} (hgd : o.guard = none) (s x : Operand)
    (ho : o.op = .call { callee := .builtin .append, args := #[s, x], argTypes := #[t, t] }) (W : World) (base : Nat) (acc xv : Value) (bs ys : List Int)
    (hs : a.eval s = acc) (hx : a.eval x = xv) (hown : OwnK k e W base acc bs) (hr : Reads W k xv ys) (hl : bs.length + ys.length ≤ 100000) (hbW : base ≤ W.heap.size)
    (h : ∀ v' w', OwnK k e w' base v' (bs ++ ys) → Grew W w' acc v' → wpList Try.prog ops Q rest (a.put o.dst v') w') : wpList Try.prog ops Q (o :: rest) a W := by
  obtain ⟨i0, hinfo, hz0, hz1, hz2⟩ := info_parts info
  unfold OwnK at hown h
  rcases hr with ⟨rfl, rfl⟩ | ⟨g, cap, rfl, hc⟩
  · refine wpList_append_own_none hgd s x t ho base e i0 1 hu hinfo _ bs.length (bs.map (Value.int k)) hs hown hx ?_
    refine h _ _ ?_ ⟨rfl, rfl, rfl, Nat.le_refl _, fun _ _ _ => rfl, .inl rfl⟩
    simpa using hown
  · have hb8 : (bs.length + ys.length) * bytes ≤ 140737488355328 := by
      have h1 : (bs.length + ys.length) * bytes ≤ 100000 * 8 := Nat.mul_le_mul hl hbyt
      omega
    have hnews : ∀ j u, (ys.map (Value.int k))[j]? = some u → W.cell? ((⟨g, 0, none⟩ : Addr).add j) = some u := by
      intro j u hj
      have hjl : j < ys.length := by
        have := (List.getElem?_eq_some_iff.1 hj).1
        simpa using this
      have : (⟨g, 0, none⟩ : Addr).add j = ⟨g, j, none⟩ := by unfold Addr.add; split <;> simp_all
      rw [this, hc j hjl]
      simpa [hjl] using hj
    have hone : ∀ u ∈ ys.map (Value.int k), u.oneCell' = true := by
      intro u hu
      simp only [List.mem_map] at hu
      obtain ⟨n, _, rfl⟩ := hu
      rfl
    have hmax : bs.length + ys.length ≤ maxLen := by unfold maxLen; omega
    refine wpList_plain hgd fun K hK => ?_
    obtain ⟨v', w', hrun, h2, h3, h4⟩ := run_append_own (P := Try.prog) W base t o.type e i0 (.int k 0) 1 bytes hu hinfo hz0 hz1 hz2 rfl (by decide) acc bs.length (bs.map (Value.int k)) hown ⟨g, 0, none⟩ ys.length cap (ys.map (Value.int k)) (by simp) hnews hone hmax hb8 hbW
    have hb := append_block (P := Try.prog) W base t o.type e i0 (.int k 0) hu hinfo hz0 (by rw [hz1]; rfl) (by omega) acc bs.length (bs.map (Value.int k)) (by rw [hz1]; exact hown) ⟨g, 0, none⟩ ys.length cap (ys.map (Value.int k)) (by rw [hz1]; simp) hnews hone hmax (by rw [hz2]; exact hb8) hrun
    unfold Oper.wp execOp
    simp only [ho, resolve, invoke, builtin, Sem.run_bind, Sem.run_pure, Result.andThen_ok, List.map_toArray, List.map_cons, List.map_nil, hs, hx, hrun]
    rw [← List.map_append, ← List.length_append] at h2
    exact hK _ _ (h _ _ h2 ⟨h3.os, h3.tape, h3.output, h3.size, fun k hk hne => h3.block k hk (fun c => hne c.symm), hb⟩)
end Go.Proofs.Ytjjapblpmpidcaa.UReg
