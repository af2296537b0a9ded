import Derived.Test.YtjjapblpmpidcaaJ5
set_option linter.unusedVariables false
set_option linter.unusedSimpArgs false
namespace Go.Proofs.Ytjjapblpmpidcaa
open Go.RowKit UReg

theorem UReg.Grew.of_ext {W w' : World} {v : Value} (x : Ext W w') : Grew W w' v v := ⟨x.os, x.tape, x.output, x.size, fun k hk _ => x.block k hk, .inl rfl⟩
theorem UReg.Grew.trans {W w1 w2 : World} {v v' v'' : Value} (a : Grew W w1 v v') (b : Grew w1 w2 v' v'') : Grew W w2 v v'' := by
  refine ⟨b.os.trans a.os, b.tape.trans a.tape, b.output.trans a.output, Nat.le_trans a.size b.size, fun k hk h2 => ?_, ?_⟩
  · refine (b.block k (Nat.lt_of_lt_of_le hk a.size) fun e => ?_).trans (a.block k hk h2)
    rcases a.own with h | h
    · exact h2 (h ▸ e)
    · have := h k e; omega
  · rcases b.own with h | h
    · rcases a.own with h' | h'
      · exact .inl (h.trans h')
      · exact .inr fun g hg => h' g (h ▸ hg)
    · exact .inr fun g hg => Nat.le_trans a.size (h g hg)
theorem UReg.Grew.set {W w' : World} {v v' : Value} (h : Grew W w' v v') {g : Nat} (hg : v.ownBlock = some g) (o : Nat) (u : Value) : Grew W (w'.setCell ⟨g, o, none⟩ u) v v' :=
  ⟨h.os, h.tape, h.output, by simpa using h.size, fun k hk h2 => by rw [← h.block k hk h2]; exact Below.heap_setCell _ _ _ _ (fun c => h2 (by rw [hg]; exact congrArg some c.symm)), h.own⟩
set_option maxHeartbeats 4000000 in
theorem tDelete {B g N cap I : Nat} {L : List (Int × Int)} {w : World} (hown : OwnP RT w B (.slice (some ⟨g, 0, none⟩) (N + 1) cap) L) (hI : I < N + 1) (hn : N + 1 ≤ 16) :
    Calls Try.prog 84 #[.slice (some ⟨g, 0, none⟩) (N + 1) cap, .int .i64 I, .int .i64 (I + 1)] w fun e w' => e = .returned (.slice (some ⟨g, 0, none⟩) N cap) ∧ OwnP RT w' B (.slice (some ⟨g, 0, none⟩) N cap) (L.eraseIdx I) ∧ Grew w w' (.slice (some ⟨g, 0, none⟩) (N + 1) cap) (.slice (some ⟨g, 0, none⟩) N cap) := by
  obtain ⟨cur, hh, _, hnL, hcap, hcm, hcs, _⟩ := hown.raw
  have hm : cap ≤ 9223372036854775807 := by unfold maxLen at hcm; omega
  have HOWN := Lib.hid hown
  have HI := Lib.hid hI
  have hg : g < w.heap.size := (Array.getElem?_eq_some_iff.1 hh).1
  clear hh hcs hcm hnL hown
  by_cases hq : cap = I + 1
  · obtain rfl : N = I := by omega
    subst hq
    have b1 : (0 : Int) ≤ N := by omega
    have b2 : (N : Int) ≤ N + 1 := by omega
    have b5 : (0 : Int) ≤ N + 1 := by omega
    have b6 : N ≤ N + 1 := by omega
    have t1 : ((N : Int) == N + 1) = false := by simp; omega
    have t2 : decide ((N : Int) = N + 1) = false := decide_eq_false (by omega)
    clear hI hcap
    go_enter Try.func84, Try.ntmps84
    go_wp2_with fail
    try dsimp only
    repeat (first | with_reducible refine wp_region_ext ?_ [(0, 0), (1, 0), (2, 0), (3, 0), (4, 0), (5, 0), (6, 2), (7, 0)] (fun i => !(i == 6)) ?_ ?_ ?_ ?_ ?_ | go_step)
    · kernel_rfl
    · kernel_rfl
    · kernel_rfl
    · kernel_rfl
    · exact (fun _ _ d _ _ h => by cases d <;> exact h)
    refine run_pure (o := ?_) (v := ?_) (a' := ?_) ?_ ?_ ?_ ?_ ?_
    rotate_left 3
    · (simp only [List.getElem?_toArray, List.getElem?_cons_succ, List.getElem?_cons_zero] <;> rfl)
    · rfl
    · intro w'
      go_simp
      with_reducible rfl
    · simp only [Act.put, List.setIfInBounds_toArray, List.set_cons_zero, List.set_cons_succ]
      rfl
    refine run_pure (o := ?_) (v := ?_) (a' := ?_) ?_ ?_ ?_ ?_ ?_
    rotate_left 3
    · (simp only [List.getElem?_toArray, List.getElem?_cons_succ, List.getElem?_cons_zero] <;> rfl)
    · rfl
    · intro w'
      go_simp
      with_reducible rfl
    · simp only [Act.put, List.setIfInBounds_toArray, List.set_cons_zero, List.set_cons_succ]
      rfl
    refine run_pure (o := ?_) (v := ?_) (a' := ?_) ?_ ?_ ?_ ?_ ?_
    rotate_left 3
    · (simp only [List.getElem?_toArray, List.getElem?_cons_succ, List.getElem?_cons_zero] <;> rfl)
    · rfl
    · intro w'
      go_simp
      with_reducible rfl
    · simp only [Act.put, List.setIfInBounds_toArray, List.set_cons_zero, List.set_cons_succ]
      rfl
    refine run_pure (o := ?_) (v := ?_) (a' := ?_) ?_ ?_ ?_ ?_ ?_
    rotate_left 3
    · (simp only [List.getElem?_toArray, List.getElem?_cons_succ, List.getElem?_cons_zero] <;> rfl)
    · rfl
    · intro w'
      go_simp
      with_reducible rfl
    · simp only [Act.put, List.setIfInBounds_toArray, List.set_cons_zero, List.set_cons_succ]
      rfl
    refine run_pure (o := ?_) (v := ?_) (a' := ?_) ?_ ?_ ?_ ?_ ?_
    rotate_left 3
    · (simp only [List.getElem?_toArray, List.getElem?_cons_succ, List.getElem?_cons_zero] <;> rfl)
    · rfl
    · intro w'
      go_simp
      with_reducible rfl
    · simp only [Act.put, List.setIfInBounds_toArray, List.set_cons_zero, List.set_cons_succ]
      rfl
    refine run_pure (o := ?_) (v := ?_) (a' := ?_) ?_ ?_ ?_ ?_ ?_
    rotate_left 3
    · (simp only [List.getElem?_toArray, List.getElem?_cons_succ, List.getElem?_cons_zero] <;> rfl)
    · rfl
    · intro w'
      go_simp
      with_reducible rfl
    · simp only [Act.put, List.setIfInBounds_toArray, List.set_cons_zero, List.set_cons_succ]
      rfl
    refine run_list (o := ?_) ?_ ?_ (fun d1 hx K hK => ?_)
    rotate_left
    · (simp only [List.getElem?_toArray, List.getElem?_cons_succ, List.getElem?_cons_zero] <;> rfl)
    · rfl
    have hc_d1 := (ext_cell hx).1
    have hf_d1 := (ext_cell hx).2
    have HX_d1 := Lib.hid hx
    have y_d1 := hx.size
    try simp at y_d1
    clear hx
    refine wpList_del rfl (.tmp 22) (.tmp 25) rfl d1 B g (N + 1) N 0 (N + 1) N 0 L _ rfl rfl (.inl rfl) (HOWN.out.ext HX_d1.out) (by omega) rfl ?_
    intro w5 h1 h2 h3 c1 c2 f1 f2
    refine hK _ _ (fun h => absurd h (by decide)) ?_
    clear hK K
    try simp only [Act.put, List.setIfInBounds_toArray, List.set_cons_zero, List.set_cons_succ]
    refine run_pure (o := ?_) (v := ?_) (a' := ?_) ?_ ?_ ?_ ?_ ?_
    rotate_left 3
    · (simp only [List.getElem?_toArray, List.getElem?_cons_succ, List.getElem?_cons_zero] <;> rfl)
    · rfl
    · intro w'
      go_simp
      with_reducible rfl
    · simp only [Act.put, List.setIfInBounds_toArray, List.set_cons_zero, List.set_cons_succ]
      rfl
    refine run_nil (fun d2 hx => ?_)
    have hc_d2 := (ext_cell hx).1
    have hf_d2 := (ext_cell hx).2
    have HX_d2 := Lib.hid hx
    have y_d2 := hx.size
    try simp at y_d2
    clear hx
    have hg5 : g < w5.heap.size := by rw [h3]; exact Nat.lt_of_lt_of_le hg HX_d1.out.size
    have C1 := Lib.hid (show (d2.cell? ⟨g, N * 2, none⟩).isSome = true by rw [hc_d2 _ _ hg5]; exact c1)
    have C2 := Lib.hid (show (d2.cell? ⟨g, N * 2 + 1, none⟩).isSome = true by rw [hc_d2 _ _ hg5]; exact c2)
    have F1 := Lib.hid (show d2.frozen? ⟨g, N * 2, none⟩ = false by rw [hf_d2 _ _ hg5]; exact f1)
    have F2 := Lib.hid (show d2.frozen? ⟨g, N * 2 + 1, none⟩ = false by rw [hf_d2 _ _ hg5]; exact f2)
    have O2 := Lib.hid (h1.ext HX_d2.out)
    have G2 := Lib.hid (((Grew.of_ext HX_d1.out).trans h2).trans (Grew.of_ext HX_d2.out))
    clear h1 h2 h3 c1 c2 f1 f2 hc_d2 hf_d2 hc_d1 hf_d1
    go_wp2_with (with_reducible refine wpList_clearP rfl (.tmp 31) rfl _ g (N * 2) _ rfl C1.out C2.out F1.out F2.out ?_)
    go_ret
    exact ⟨rfl, (O2.out.over _ (Nat.le_refl _) _).over _ (by omega) _, (G2.out.set rfl _ _).set rfl _ _⟩
  · have hq' : I + 1 < cap := by omega
    have b1 : (0 : Int) ≤ I := by omega
    have b2 : (I : Int) ≤ I + 1 := by omega
    have b3 : (I : Int) + 1 ≤ N + 1 := by omega
    have b3' : (I : Int) ≤ N := by omega
    have b4 : (N : Int) + 1 ≤ cap := by omega
    have b5 : (0 : Int) ≤ I + 1 := by omega
    have b6 : I ≤ cap := by omega
    have b7 : (0 : Int) ≤ N := by omega
    have b8 : (N : Int) ≤ N + 1 := by omega
    have t1 : ((I : Int) == I + 1) = false := by simp; omega
    have t2 : decide ((I : Int) = I + 1) = false := decide_eq_false (by omega)
    clear hI
    go_enter Try.func84, Try.ntmps84
    go_wp2_with fail
    try dsimp only
    repeat (first | with_reducible refine wp_region_ext ?_ [(0, 0), (1, 0), (2, 0), (3, 0), (4, 0), (5, 0), (6, 2), (7, 0)] (fun i => !(i == 6)) ?_ ?_ ?_ ?_ ?_ | go_step)
    · kernel_rfl
    · kernel_rfl
    · kernel_rfl
    · kernel_rfl
    · exact (fun _ _ d _ _ h => by cases d <;> exact h)
    refine run_pure (o := ?_) (v := ?_) (a' := ?_) ?_ ?_ ?_ ?_ ?_
    rotate_left 3
    · (simp only [List.getElem?_toArray, List.getElem?_cons_succ, List.getElem?_cons_zero] <;> rfl)
    · rfl
    · intro w'
      go_simp
      with_reducible rfl
    · simp only [Act.put, List.setIfInBounds_toArray, List.set_cons_zero, List.set_cons_succ]
      rfl
    refine run_pure (o := ?_) (v := ?_) (a' := ?_) ?_ ?_ ?_ ?_ ?_
    rotate_left 3
    · (simp only [List.getElem?_toArray, List.getElem?_cons_succ, List.getElem?_cons_zero] <;> rfl)
    · rfl
    · intro w'
      go_simp
      with_reducible rfl
    · simp only [Act.put, List.setIfInBounds_toArray, List.set_cons_zero, List.set_cons_succ]
      rfl
    refine run_pure (o := ?_) (v := ?_) (a' := ?_) ?_ ?_ ?_ ?_ ?_
    rotate_left 3
    · (simp only [List.getElem?_toArray, List.getElem?_cons_succ, List.getElem?_cons_zero] <;> rfl)
    · rfl
    · intro w'
      go_simp
      with_reducible rfl
    · simp only [Act.put, List.setIfInBounds_toArray, List.set_cons_zero, List.set_cons_succ]
      rfl
    refine run_pure (o := ?_) (v := ?_) (a' := ?_) ?_ ?_ ?_ ?_ ?_
    rotate_left 3
    · (simp only [List.getElem?_toArray, List.getElem?_cons_succ, List.getElem?_cons_zero] <;> rfl)
    · rfl
    · intro w'
      go_simp
      with_reducible rfl
    · simp only [Act.put, List.setIfInBounds_toArray, List.set_cons_zero, List.set_cons_succ]
      rfl
    refine run_pure (o := ?_) (v := ?_) (a' := ?_) ?_ ?_ ?_ ?_ ?_
    rotate_left 3
    · (simp only [List.getElem?_toArray, List.getElem?_cons_succ, List.getElem?_cons_zero] <;> rfl)
    · rfl
    · intro w'
      go_simp
      with_reducible rfl
    · simp only [Act.put, List.setIfInBounds_toArray, List.set_cons_zero, List.set_cons_succ]
      rfl
    refine run_pure (o := ?_) (v := ?_) (a' := ?_) ?_ ?_ ?_ ?_ ?_
    rotate_left 3
    · (simp only [List.getElem?_toArray, List.getElem?_cons_succ, List.getElem?_cons_zero] <;> rfl)
    · rfl
    · intro w'
      go_simp
      with_reducible rfl
    · simp only [Act.put, List.setIfInBounds_toArray, List.set_cons_zero, List.set_cons_succ]
      rfl
    refine run_list (o := ?_) ?_ ?_ (fun d1 hx K hK => ?_)
    rotate_left
    · (simp only [List.getElem?_toArray, List.getElem?_cons_succ, List.getElem?_cons_zero] <;> rfl)
    · rfl
    have hc_d1 := (ext_cell hx).1
    have hf_d1 := (ext_cell hx).2
    have HX_d1 := Lib.hid hx
    have y_d1 := hx.size
    try simp at y_d1
    clear hx
    refine wpList_del rfl (.tmp 22) (.tmp 25) rfl d1 B g (N + 1) N (N - I) cap I _ L _ rfl (by first | rfl | (trace_state; sorry)) (.inr rfl) (HOWN.out.ext HX_d1.out) (by omega) rfl ?_
    intro w5 h1 h2 h3 c1 c2 f1 f2
    refine hK _ _ (fun h => absurd h (by decide)) ?_
    clear hK K
    try simp only [Act.put, List.setIfInBounds_toArray, List.set_cons_zero, List.set_cons_succ]
    refine run_pure (o := ?_) (v := ?_) (a' := ?_) ?_ ?_ ?_ ?_ ?_
    rotate_left 3
    · (simp only [List.getElem?_toArray, List.getElem?_cons_succ, List.getElem?_cons_zero] <;> rfl)
    · rfl
    · intro w'
      go_simp
      with_reducible rfl
    · simp only [Act.put, List.setIfInBounds_toArray, List.set_cons_zero, List.set_cons_succ]
      rfl
    refine run_nil (fun d2 hx => ?_)
    have hc_d2 := (ext_cell hx).1
    have hf_d2 := (ext_cell hx).2
    have HX_d2 := Lib.hid hx
    have y_d2 := hx.size
    try simp at y_d2
    clear hx
    have hg5 : g < w5.heap.size := by rw [h3]; exact Nat.lt_of_lt_of_le hg HX_d1.out.size
    have C1 := Lib.hid (show (d2.cell? ⟨g, N * 2, none⟩).isSome = true by rw [hc_d2 _ _ hg5]; exact c1)
    have C2 := Lib.hid (show (d2.cell? ⟨g, N * 2 + 1, none⟩).isSome = true by rw [hc_d2 _ _ hg5]; exact c2)
    have F1 := Lib.hid (show d2.frozen? ⟨g, N * 2, none⟩ = false by rw [hf_d2 _ _ hg5]; exact f1)
    have F2 := Lib.hid (show d2.frozen? ⟨g, N * 2 + 1, none⟩ = false by rw [hf_d2 _ _ hg5]; exact f2)
    have O2 := Lib.hid (h1.ext HX_d2.out)
    have G2 := Lib.hid (((Grew.of_ext HX_d1.out).trans h2).trans (Grew.of_ext HX_d2.out))
    clear h1 h2 h3 c1 c2 f1 f2 hc_d2 hf_d2 hc_d1 hf_d1
    go_wp2_with (with_reducible refine wpList_clearP rfl (.tmp 31) rfl _ g (N * 2) _ rfl C1.out C2.out F1.out F2.out ?_)
    go_ret
    exact ⟨rfl, (O2.out.over _ (Nat.le_refl _) _).over _ (by omega) _, (G2.out.set rfl _ _).set rfl _ _⟩
end Go.Proofs.Ytjjapblpmpidcaa
