import Derived.Test.YtjjapblpmpidcaaJ7
set_option linter.unusedVariables false
set_option linter.unusedSimpArgs false
namespace Go.Proofs.Ytjjapblpmpidcaa
open Go.RowKit UReg

/-! ### Copy -/
def mapV (f : Int → Int) (k : Nat) (L : List (Int × Int)) : List (Int × Int) := (L.take k).map (fun r => (r.1, f r.2)) ++ L.drop k
theorem mapV_0 (f : Int → Int) (L : List (Int × Int)) : mapV f 0 L = L := by simp [mapV]
theorem mapV_all (f : Int → Int) (L : List (Int × Int)) : mapV f L.length L = L.map fun r => (r.1, f r.2) := by simp [mapV]
theorem mapV_length (f : Int → Int) (k : Nat) (L : List (Int × Int)) : (mapV f k L).length = L.length := by simp [mapV]; omega
theorem mapV_get (f : Int → Int) (k : Nat) (L : List (Int × Int)) (hk : k < L.length) : (mapV f k L)[k]'(by rw [mapV_length]; exact hk) = L[k] := by
  unfold mapV
  rw [List.getElem_append_right (by simp; omega)]
  simp [show min k L.length = k by omega]
theorem mapV_succ (f : Int → Int) (k : Nat) (L : List (Int × Int)) (hk : k < L.length) : mapV f (k + 1) L = (mapV f k L).set k (L[k].1, f L[k].2) := by
  unfold mapV
  rw [List.take_succ_eq_append_getElem hk, List.map_append, List.append_assoc, List.set_append_right _ _ (by simp; omega)]
  congr 1
  simp only [List.length_map, List.length_take, show min k L.length = k by omega, Nat.sub_self]
  rw [List.drop_eq_getElem_cons hk, List.set_cons_zero]
  rfl
theorem rowC_set : ∀ (L : List (Int × Int)) (k : Nat) (a x : Int), (h : k < L.length) → (L[k]).1 = a → rowC (L.set k (a, x)) = (rowC L).set (k * 2 + 1) (.int .u64 x)
  | r :: L, 0, a, x, _, e => by simp at e; simp [rowC_cons, e]
  | r :: L, k + 1, a, x, h, e => by
    have e2 : (k + 1) * 2 + 1 = k * 2 + 1 + 2 := by omega
    rw [List.set_cons_succ, rowC_cons, rowC_cons, e2, List.set_cons_succ, List.set_cons_succ, rowC_set L k a x (by simpa using h) (by simpa using e)]
/-- A store of one row's value. -/
theorem UReg.OwnP.upd {e : TypeId} {w : World} {B g n cap : Nat} {L : List (Int × Int)} (h : OwnP e w B (.slice (some ⟨g, 0, none⟩) n cap) L) (k : Nat) (hk : k < L.length) (a x : Int) (ha : L[k].1 = a) : OwnP e (w.setCell ⟨g, k * 2 + 1, none⟩ (.int .u64 x)) B (.slice (some ⟨g, 0, none⟩) n cap) (L.set k (a, x)) := by
  obtain ⟨cur, hh, hb, hn, h1, h2, h3, h4⟩ := h.raw
  rw [setCell_eq_setRow w g _ cur e (0, 0) _ hh]
  refine .ofRaw (setRow_heap w g cur _ e (0, 0) hh) hb (by simpa using hn) h1 h2 (by simpa using h3) ?_
  rw [rowC_set _ _ _ _ hk ha, ← h4]
  simp only [Array.toList_setIfInBounds]
  rw [List.take_set]
theorem tCloneF {B : Nat} {v : Value} {L : List (Int × Int)} {w : World} (h : OwnP RT w B v L) {n : Nat} (hl : L.length = n) (hn : n ≤ 16) :
    Calls Try.prog 64 #[v] w fun e w' => ∃ u, e = .returned u ∧ (∃ p cap, u = .slice p n cap ∧ OwnP RT w' w.heap.size u L) ∧ Ext w w' := by
  refine (tClone h (by omega)).mono ?_
  rintro e w' ⟨u, rfl, ho, hx⟩
  obtain ⟨p, cap, hv, _⟩ := ho.flat
  rw [hl] at hv
  exact ⟨u, rfl, ⟨p, cap, hv, ho⟩, hx⟩
set_option maxRecDepth 100000 in
set_option maxHeartbeats 4000000 in
theorem tCopy {B tb K : Nat} {v : Value} {L : List (Int × Int)} {nx : Int} {w : World} (h : Tab RT B w tb v L nx) (hn : L.length ≤ 16) (f : Int → Int) (hK : ∀ a w, (callFunc K #[a]).run Try.prog w = .ok (.enter K #[a]) w) (hf : ∀ x w, Calls Try.prog K #[.int .u64 x] w fun e w' => e = .returned (.int .u64 (f x)) ∧ Ext w w') :
    Calls Try.prog 27 #[.pointer (some ⟨tb, 0, none⟩), .func (.func K) #[] #[]] w fun e w' => ∃ tc u, e = .returned (.pointer (some ⟨tc, 0, none⟩)) ∧ Tab RT w.heap.size w' tc u (L.map fun r => (r.1, f r.2)) nx ∧ Ext w w' := by
  obtain ⟨c0, c1, f0, f1⟩ := h.cells.two
  obtain ⟨p, cap, hv, _, _, _⟩ := h.own.flat
  have hlt := h.lt
  have HT := Lib.hid h
  have HC := Lib.hid fun (w1 : World) (x : Ext w w1) => (tCloneF (h.own.ext x) rfl hn)
  subst hv
  obtain ⟨n, hl⟩ : ∃ n, L.length = n := ⟨_, rfl⟩
  rw [hl] at c0 hn HC
  have HL := Lib.hid hl
  have HF := Lib.hid hf
  clear h hl hf
  go_enter Try.func27, Try.ntmps27
  go_wp2_with fail
  try dsimp only
  repeat (first | with_reducible refine wp_region_ext ?_ [(0, 0), (1, 0), (2, 0), (3, 1), (5, 0), (6, 0), (7, 0), (8, 1), (4, 2), (9, 0), (10, 2), (11, 0)] (fun _ => true) ?_ ?_ ?_ ?_ ?_ | go_step)
  · kernel_rfl
  · kernel_rfl
  · kernel_rfl
  · kernel_rfl
  · exact (fun _ _ d _ _ h => by cases d <;> exact h)
  refine run_pure (o := ?_) (v := ?_) (a' := ?_) ?_ ?_ ?_ ?_ ?_
  rotate_left 3
  · (simp only [List.getElem?_toArray, List.getElem?_cons_succ, List.getElem?_cons_zero] <;> rfl)
  · rfl
  · intro w'
    go_simp
    with_reducible rfl
  · simp only [Act.put, List.setIfInBounds_toArray, List.set_cons_zero, List.set_cons_succ]
    rfl
  refine run_pure (o := ?_) (v := ?_) (a' := ?_) ?_ ?_ ?_ ?_ ?_
  rotate_left 3
  · (simp only [List.getElem?_toArray, List.getElem?_cons_succ, List.getElem?_cons_zero] <;> rfl)
  · rfl
  · intro w'
    go_simp
    with_reducible rfl
  · simp only [Act.put, List.setIfInBounds_toArray, List.set_cons_zero, List.set_cons_succ]
    rfl
  refine run_pure (o := ?_) (v := ?_) (a' := ?_) ?_ ?_ ?_ ?_ ?_
  rotate_left 3
  · (simp only [List.getElem?_toArray, List.getElem?_cons_succ, List.getElem?_cons_zero] <;> rfl)
  · rfl
  · intro w'
    go_simp
    with_reducible rfl
  · simp only [Act.put, List.setIfInBounds_toArray, List.set_cons_zero, List.set_cons_succ]
    rfl
  refine run_read (o := ?_) (v := ?_) (a' := ?_) ?_ ?_ ?_ ?_ (Ext.refl _) ?_
  rotate_left 3
  · (simp only [List.getElem?_toArray, List.getElem?_cons_succ, List.getElem?_cons_zero] <;> rfl)
  · rfl
  · intro w' hw'
    obtain ⟨hc, hf⟩ := ext_cell hw'
    clear hw'
    go_simp
    with_reducible rfl
  · simp only [Act.put, List.setIfInBounds_toArray, List.set_cons_zero, List.set_cons_succ]
    rfl
  refine run_pure (o := ?_) (v := ?_) (a' := ?_) ?_ ?_ ?_ ?_ ?_
  rotate_left 3
  · (simp only [List.getElem?_toArray, List.getElem?_cons_succ, List.getElem?_cons_zero] <;> rfl)
  · rfl
  · intro w'
    go_simp
    with_reducible rfl
  · simp only [Act.put, List.setIfInBounds_toArray, List.set_cons_zero, List.set_cons_succ]
    rfl
  refine run_pure (o := ?_) (v := ?_) (a' := ?_) ?_ ?_ ?_ ?_ ?_
  rotate_left 3
  · (simp only [List.getElem?_toArray, List.getElem?_cons_succ, List.getElem?_cons_zero] <;> rfl)
  · rfl
  · intro w'
    go_simp
    with_reducible rfl
  · simp only [Act.put, List.setIfInBounds_toArray, List.set_cons_zero, List.set_cons_succ]
    rfl
  refine run_pure (o := ?_) (v := ?_) (a' := ?_) ?_ ?_ ?_ ?_ ?_
  rotate_left 3
  · (simp only [List.getElem?_toArray, List.getElem?_cons_succ, List.getElem?_cons_zero] <;> rfl)
  · rfl
  · intro w'
    go_simp
    with_reducible rfl
  · simp only [Act.put, List.setIfInBounds_toArray, List.set_cons_zero, List.set_cons_succ]
    rfl
  refine run_read (o := ?_) (v := ?_) (a' := ?_) ?_ ?_ ?_ ?_ (Ext.refl _) ?_
  rotate_left 3
  · (simp only [List.getElem?_toArray, List.getElem?_cons_succ, List.getElem?_cons_zero] <;> rfl)
  · rfl
  · intro w' hw'
    obtain ⟨hc, hf⟩ := ext_cell hw'
    clear hw'
    go_simp
    with_reducible rfl
  · simp only [Act.put, List.setIfInBounds_toArray, List.set_cons_zero, List.set_cons_succ]
    rfl
  refine run_callG (f := 64) (args := ?_) (o := ?_) (Φ := fun w2 v w' => ∃ p cap, v = .slice p n cap ∧ OwnP RT w' w2.heap.size v L) ?_ ?_ ?_ ?_ ?_ (fun d1a v1 d1 hx0 hp1 hx => ?_)
  rotate_left 2
  · (simp only [List.getElem?_toArray, List.getElem?_cons_succ, List.getElem?_cons_zero] <;> rfl)
  · rfl
  · intro w'
    go_simp
    with_reducible rfl
  · intro w2 hx2
    obtain ⟨hc, hf⟩ := ext_cell hx2
    exact HC.out w2 hx2
  · exact fun _ _ h k => h.trans k
  have hz_d1 := hx0.size
  have hy_d1 := hx.size
  try simp at hz_d1
  try simp at hy_d1
  have hx := hx0.trans hx
  clear hx0
  have hc_d1 := (ext_cell hx).1
  have hf_d1 := (ext_cell hx).2
  have HX_d1 := Lib.hid hx
  have y_d1 := hx.size
  try simp at y_d1
  clear hx
  obtain ⟨p1, cap1, rfl, ho1⟩ := hp1
  try simp only [Act.put, List.setIfInBounds_toArray, List.set_cons_zero, List.set_cons_succ]
  refine run_pure (o := ?_) (v := ?_) (a' := ?_) ?_ ?_ ?_ ?_ ?_
  rotate_left 3
  · (simp only [List.getElem?_toArray, List.getElem?_cons_succ, List.getElem?_cons_zero] <;> rfl)
  · rfl
  · intro w'
    go_simp
    with_reducible rfl
  · simp only [Act.put, List.setIfInBounds_toArray, List.set_cons_zero, List.set_cons_succ]
    rfl
  refine run_do (o := ?_) ?_ ?_ (fun d2 hx K hK => ?_)
  rotate_left
  · (simp only [List.getElem?_toArray, List.getElem?_cons_succ, List.getElem?_cons_zero] <;> rfl)
  · rfl
  have hc_d2 := (ext_cell hx).1
  have hf_d2 := (ext_cell hx).2
  have HX_d2 := Lib.hid hx
  have y_d2 := hx.size
  try simp at y_d2
  clear hx
  go_simp
  refine hK _ _ (fun _ hs => hs.alloc _) ?_
  clear hK K
  try simp only [Act.put, List.setIfInBounds_toArray, List.set_cons_zero, List.set_cons_succ]
  refine run_pure (o := ?_) (v := ?_) (a' := ?_) ?_ ?_ ?_ ?_ ?_
  rotate_left 3
  · (simp only [List.getElem?_toArray, List.getElem?_cons_succ, List.getElem?_cons_zero] <;> rfl)
  · rfl
  · intro w'
    go_simp
    with_reducible rfl
  · simp only [Act.put, List.setIfInBounds_toArray, List.set_cons_zero, List.set_cons_succ]
    rfl
  refine run_nil (fun d3 hx => ?_)
  have hc_d3 := (ext_cell hx).1
  have hf_d3 := (ext_cell hx).2
  have HX_d3 := Lib.hid hx
  have y_d3 := hx.size
  try simp at y_d3
  have z_d3_d2_0 : d2.heap.size < d3.heap.size := by omega
  clear hx
  have hge1 := ho1.ge
  have hlt1 := ho1.lt
  have HZ := Lib.hid (show w.heap.size ≤ d2.heap.size by omega)
  have hne : (Value.slice p1 n cap1).ownBlock ≠ some d2.heap.size := fun e => by have := hlt1 _ e; omega
  have HO := Lib.hid ((((ho1.ext HX_d2.out).ext ((Ext.refl d2).alloc _)).ext HX_d3.out).mono (show w.heap.size ≤ d1a.heap.size by omega))
  have XD := Lib.hid (((HX_d1.out.trans HX_d2.out).alloc _).trans HX_d3.out)
  have HNE := Lib.hid hne
  clear hge1 hlt1 hne ho1 hx
  go_wp2_with fail
  go_loopw [6, 23] (fun _ iv wr => ∃ k : Nat, k ≤ n ∧ iv = .int .i64 k ∧ Ext w wr ∧ OwnP RT wr w.heap.size (.slice p1 n cap1) (mapV f k L) ∧ Cells wr d2.heap.size [.slice p1 n cap1, .int .i64 nx])
    (fun _ iv _ => n - (intOf iv).toNat)
  case atStart => exact ⟨0, by omega, rfl, XD.out, by rw [mapV_0]; exact HO.out, Cells.mk2 (by go_simp <;> rfl) (by go_simp <;> rfl) (by go_simp) (by go_simp)⟩
  case round =>
    clear hc_d1 hf_d1 hc_d2 hf_d2 hc_d3 hf_d3 HO c0 c1 f0 f1
    obtain ⟨k, hk, rfl, HX, hown, hC⟩ := hrel
    have HX_r := Lib.hid HX; clear HX
    obtain ⟨c0, c1, f0, f1⟩ := hC.two
    have zc : d2.heap.size < wr.heap.size := hC.lt
    by_cases hlt' : k < n
    · have hki : (k : Int) < (n : Int) := by omega
      have hkL : k < L.length := by rw [HL.out]; exact hlt'
      have hget := mapV_get f k L hkL
      have hsucc := mapV_succ f k L hkL
      obtain ⟨p2, cap2, hv2, _, _, hcells⟩ := hown.flat
      obtain ⟨g, hp2, hg0, hg, e0, e1⟩ := hcells k (by rw [mapV_length]; exact hkL)
      simp only [Value.slice.injEq] at hv2
      obtain ⟨rfl, hnl, rfl⟩ := hv2
      clear hnl
      subst hp2
      rw [hget] at e0 e1
      obtain ⟨cur, hh, _, hnn, hnc, _, hcs, _⟩ := hown.raw
      have ef := (cells_of_raw hh (k * 2 + 1) (by rw [hcs]; omega)).2
      have hupd := fun (w1 : World) (x : Ext wr w1) (a y : Int) (ha : L[k].1 = a) => (hown.ext x).upd k (by rw [mapV_length]; exact hkL) a y (by rw [hget]; exact ha)
      obtain ⟨⟨a, x⟩, hr⟩ : ∃ t, L[k] = t := ⟨_, rfl⟩
      rw [hr] at e0 e1 hsucc hupd
      simp only at e0 e1 hsucc hupd
      have HU := Lib.hid fun (w1 : World) (x : Ext wr w1) (y : Int) => hupd w1 x a y rfl
      have HSu := Lib.hid hsucc
      have hgd : g ≠ d2.heap.size := fun e => HNE.out (by rw [e]; rfl)
      have hgd' : d2.heap.size ≠ g := fun e => hgd e.symm
      clear hget hsucc hcells hh hnn hnc hcs hupd hr hown
      go_wp2_with fail
      try dsimp only
      repeat (first | with_reducible refine wp_region_ext ?_ [(0, 0), (1, 0), (2, 0), (3, 1), (4, 0), (5, 0), (6, 0), (7, 0), (8, 0), (9, 1), (10, 0), (11, 0), (12, 0), (13, 1), (14, 1), (15, 0), (16, 0), (17, 2)] (fun i => !(i == 17)) ?_ ?_ ?_ ?_ ?_ | go_step)
      · kernel_rfl
      · kernel_rfl
      · kernel_rfl
      · kernel_rfl
      · exact (fun _ _ d _ _ h => by cases d <;> exact h)
      refine run_pure (o := ?_) (v := ?_) (a' := ?_) ?_ ?_ ?_ ?_ ?_
      rotate_left 3
      · (simp only [List.getElem?_toArray, List.getElem?_cons_succ, List.getElem?_cons_zero] <;> rfl)
      · rfl
      · intro w'
        go_simp
        with_reducible rfl
      · simp only [Act.put, List.setIfInBounds_toArray, List.set_cons_zero, List.set_cons_succ]
        rfl
      refine run_pure (o := ?_) (v := ?_) (a' := ?_) ?_ ?_ ?_ ?_ ?_
      rotate_left 3
      · (simp only [List.getElem?_toArray, List.getElem?_cons_succ, List.getElem?_cons_zero] <;> rfl)
      · rfl
      · intro w'
        go_simp
        with_reducible rfl
      · simp only [Act.put, List.setIfInBounds_toArray, List.set_cons_zero, List.set_cons_succ]
        rfl
      refine run_pure (o := ?_) (v := ?_) (a' := ?_) ?_ ?_ ?_ ?_ ?_
      rotate_left 3
      · (simp only [List.getElem?_toArray, List.getElem?_cons_succ, List.getElem?_cons_zero] <;> rfl)
      · rfl
      · intro w'
        go_simp
        with_reducible rfl
      · simp only [Act.put, List.setIfInBounds_toArray, List.set_cons_zero, List.set_cons_succ]
        rfl
      refine run_read (o := ?_) (v := ?_) (a' := ?_) ?_ ?_ ?_ ?_ (Ext.refl _) ?_
      rotate_left 3
      · (simp only [List.getElem?_toArray, List.getElem?_cons_succ, List.getElem?_cons_zero] <;> rfl)
      · rfl
      · intro w' hw'
        obtain ⟨hc, hf⟩ := ext_cell hw'
        clear hw'
        go_simp
        with_reducible rfl
      · simp only [Act.put, List.setIfInBounds_toArray, List.set_cons_zero, List.set_cons_succ]
        rfl
      refine run_pure (o := ?_) (v := ?_) (a' := ?_) ?_ ?_ ?_ ?_ ?_
      rotate_left 3
      · (simp only [List.getElem?_toArray, List.getElem?_cons_succ, List.getElem?_cons_zero] <;> rfl)
      · rfl
      · intro w'
        go_simp
        with_reducible rfl
      · simp only [Act.put, List.setIfInBounds_toArray, List.set_cons_zero, List.set_cons_succ]
        rfl
      refine run_pure (o := ?_) (v := ?_) (a' := ?_) ?_ ?_ ?_ ?_ ?_
      rotate_left 3
      · (simp only [List.getElem?_toArray, List.getElem?_cons_succ, List.getElem?_cons_zero] <;> rfl)
      · rfl
      · intro w'
        go_simp
        with_reducible rfl
      · simp only [Act.put, List.setIfInBounds_toArray, List.set_cons_zero, List.set_cons_succ]
        rfl
      refine run_pure (o := ?_) (v := ?_) (a' := ?_) ?_ ?_ ?_ ?_ ?_
      rotate_left 3
      · (simp only [List.getElem?_toArray, List.getElem?_cons_succ, List.getElem?_cons_zero] <;> rfl)
      · rfl
      · intro w'
        go_simp
        with_reducible rfl
      · simp only [Act.put, List.setIfInBounds_toArray, List.set_cons_zero, List.set_cons_succ]
        rfl
      refine run_pure (o := ?_) (v := ?_) (a' := ?_) ?_ ?_ ?_ ?_ ?_
      rotate_left 3
      · (simp only [List.getElem?_toArray, List.getElem?_cons_succ, List.getElem?_cons_zero] <;> rfl)
      · rfl
      · intro w'
        go_simp
        with_reducible rfl
      · simp only [Act.put, List.setIfInBounds_toArray, List.set_cons_zero, List.set_cons_succ]
        rfl
      refine run_pure (o := ?_) (v := ?_) (a' := ?_) ?_ ?_ ?_ ?_ ?_
      rotate_left 3
      · (simp only [List.getElem?_toArray, List.getElem?_cons_succ, List.getElem?_cons_zero] <;> rfl)
      · rfl
      · intro w'
        go_simp
        with_reducible rfl
      · simp only [Act.put, List.setIfInBounds_toArray, List.set_cons_zero, List.set_cons_succ]
        rfl
      refine run_read (o := ?_) (v := ?_) (a' := ?_) ?_ ?_ ?_ ?_ (Ext.refl _) ?_
      rotate_left 3
      · (simp only [List.getElem?_toArray, List.getElem?_cons_succ, List.getElem?_cons_zero] <;> rfl)
      · rfl
      · intro w' hw'
        obtain ⟨hc, hf⟩ := ext_cell hw'
        clear hw'
        go_simp
        with_reducible rfl
      · simp only [Act.put, List.setIfInBounds_toArray, List.set_cons_zero, List.set_cons_succ]
        rfl
      refine run_pure (o := ?_) (v := ?_) (a' := ?_) ?_ ?_ ?_ ?_ ?_
      rotate_left 3
      · (simp only [List.getElem?_toArray, List.getElem?_cons_succ, List.getElem?_cons_zero] <;> rfl)
      · rfl
      · intro w'
        go_simp
        with_reducible rfl
      · simp only [Act.put, List.setIfInBounds_toArray, List.set_cons_zero, List.set_cons_succ]
        rfl
      refine run_pure (o := ?_) (v := ?_) (a' := ?_) ?_ ?_ ?_ ?_ ?_
      rotate_left 3
      · (simp only [List.getElem?_toArray, List.getElem?_cons_succ, List.getElem?_cons_zero] <;> rfl)
      · rfl
      · intro w'
        go_simp
        with_reducible rfl
      · simp only [Act.put, List.setIfInBounds_toArray, List.set_cons_zero, List.set_cons_succ]
        rfl
      refine run_pure (o := ?_) (v := ?_) (a' := ?_) ?_ ?_ ?_ ?_ ?_
      rotate_left 3
      · (simp only [List.getElem?_toArray, List.getElem?_cons_succ, List.getElem?_cons_zero] <;> rfl)
      · rfl
      · intro w'
        go_simp
        with_reducible rfl
      · simp only [Act.put, List.setIfInBounds_toArray, List.set_cons_zero, List.set_cons_succ]
        rfl
      refine run_read (o := ?_) (v := ?_) (a' := ?_) ?_ ?_ ?_ ?_ (Ext.refl _) ?_
      rotate_left 3
      · (simp only [List.getElem?_toArray, List.getElem?_cons_succ, List.getElem?_cons_zero] <;> rfl)
      · rfl
      · intro w' hw'
        obtain ⟨hc, hf⟩ := ext_cell hw'
        clear hw'
        go_simp
        with_reducible rfl
      · simp only [Act.put, List.setIfInBounds_toArray, List.set_cons_zero, List.set_cons_succ]
        rfl
      refine run_call (f := K) (args := ?_) (o := ?_) (v := ?_) (a' := ?_) ?_ ?_ ?_ ?_ ?_ (Ext.refl _) ?_
      rotate_left 4
      · (simp only [List.getElem?_toArray, List.getElem?_cons_succ, List.getElem?_cons_zero] <;> rfl)
      · rfl
      · intro w'
        go_simp
        with_reducible rfl
      · intro w' hw'
        exact (HF.out _ _)
      · simp only [Act.put, List.setIfInBounds_toArray, List.set_cons_zero, List.set_cons_succ]
        rfl
      refine run_pure (o := ?_) (v := ?_) (a' := ?_) ?_ ?_ ?_ ?_ ?_
      rotate_left 3
      · (simp only [List.getElem?_toArray, List.getElem?_cons_succ, List.getElem?_cons_zero] <;> rfl)
      · rfl
      · intro w'
        go_simp
        with_reducible rfl
      · simp only [Act.put, List.setIfInBounds_toArray, List.set_cons_zero, List.set_cons_succ]
        rfl
      refine run_pure (o := ?_) (v := ?_) (a' := ?_) ?_ ?_ ?_ ?_ ?_
      rotate_left 3
      · (simp only [List.getElem?_toArray, List.getElem?_cons_succ, List.getElem?_cons_zero] <;> rfl)
      · rfl
      · intro w'
        go_simp
        with_reducible rfl
      · simp only [Act.put, List.setIfInBounds_toArray, List.set_cons_zero, List.set_cons_succ]
        rfl
      refine run_do (o := ?_) ?_ ?_ (fun e1 hx K hK => ?_)
      rotate_left
      · (simp only [List.getElem?_toArray, List.getElem?_cons_succ, List.getElem?_cons_zero] <;> rfl)
      · rfl
      have hc_e1 := (ext_cell hx).1
      have hf_e1 := (ext_cell hx).2
      have HX_e1 := Lib.hid hx
      have y_e1 := hx.size
      try simp at y_e1
      clear hx
      go_simp
      refine hK _ _ (fun h => absurd h (by decide)) ?_
      clear hK K
      refine run_nil (fun e2 hx => ?_)
      have hc_e2 := (ext_cell hx).1
      have hf_e2 := (ext_cell hx).2
      have HX_e2 := Lib.hid hx
      have y_e2 := hx.size
      try simp at y_e2
      clear hx
      go_wp2_with fail
      go_roundw
      case rel =>
        have X1 := HX_r.out.trans HX_e1.out
        refine ⟨k + 1, by omega, by simp, (X1.setCell (by simp; omega) _).trans HX_e2.out, ?_, ?_⟩
        · rw [HSu.out]
          exact (HU.out _ HX_e1.out _).ext HX_e2.out
        · exact ((hC.ext HX_e1.out).other hgd _ _).ext HX_e2.out
      case measure => simp [intOf]; omega
    · obtain rfl : k = n := by omega
      have hall := mapV_all f L
      rw [HL.out] at hall
      rw [hall] at hown
      have HB := Lib.hid HT.out.base
      clear hall
      go_wp2_with fail
      go_ret
      exact ⟨_, _, rfl, ⟨hown, hC, HNE.out, HZ.out⟩, HX_r.out⟩
theorem cfCopies (a : Value) (w : World) : (callFunc 26 #[a]).run Try.prog w = .ok (.enter 26 #[a]) w := by go_simp
theorem cfAwake (a : Value) (w : World) : (callFunc 62 #[a]).run Try.prog w = .ok (.enter 62 #[a]) w := by go_simp
theorem fSame (x : Int) (w : World) : Calls Try.prog 26 #[.int .u64 x] w fun e w' => e = .returned (.int .u64 x) ∧ Ext w w' := by
  go_enter Try.func26, Try.ntmps26
  go_wp2
  go_ret
  exact ⟨rfl, Ext.refl _⟩
theorem fNext (x : Int) (w : World) : Calls Try.prog 62 #[.int .u64 x] w fun e w' => e = .returned (.int .u64 (IntKind.u64.wrap (x + 1))) ∧ Ext w w' := by
  obtain ⟨y, hy⟩ : ∃ y, IntKind.u64.wrap (x + 1) = y := ⟨_, rfl⟩
  rw [hy]
  go_enter Try.func62, Try.ntmps62
  go_wp2
  go_ret
  exact ⟨rfl, Ext.refl _⟩
end Go.Proofs.Ytjjapblpmpidcaa
