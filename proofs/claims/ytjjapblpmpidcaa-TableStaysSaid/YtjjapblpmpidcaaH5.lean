import Derived.Test.YtjjapblpmpidcaaH4
set_option linter.unusedVariables false
set_option linter.unusedSimpArgs false
namespace Go.Proofs.Ytjjapblpmpidcaa.UReg
open Go Go.RowKit

/-- 'append(xs, ys...)' of rows of any cells, xs of the call's own. -/
theorem wpList_appendV {t e : TypeId} {size bytes : Nat} (hu : Try.prog.underlying t = some (.slice e)) (info : (Try.prog.info? e).map (fun i => (i.zero.map (·.cells.size), i.size, i.bytes)) = some (some size, size, bytes)) (hbyt : bytes ≤ 64) (hsz : 0 < size)
    {ops : Array Oper} {rest : List Oper} {o : Oper} {a : Act} {Q : Exit → Act → World → Prop} (hgd : o.guard = none) (s x : Operand)
    (ho : o.op = .call { callee := .builtin .append, args := #[s, x], argTypes := #[t, t] }) (W : World) (base : Nat) (acc : Value) (n m g c : Nat) (xs ys : List Value)
    (hs : a.eval s = acc) (hx : a.eval x = .slice (some ⟨g, 0, none⟩) m c) (hown : W.ownsRow base e size acc n xs) (hl : ys.length = m * size)
    (hnews : ∀ j u, ys[j]? = some u → W.cell? ((⟨g, 0, none⟩ : Addr).add j) = some u) (hone : ∀ u ∈ ys, u.oneCell' = true) (hnm : n + m ≤ 100000) (hbW : base ≤ W.heap.size)
    (h : ∀ v' w', w'.ownsRow base e size v' (n + m) (xs ++ ys) → Grew W w' acc v' → wpList Try.prog ops Q rest (a.put o.dst v') w') : wpList Try.prog ops Q (o :: rest) a W := by
  obtain ⟨i0, hinfo, hp⟩ : ∃ i0, Try.prog.info? e = some i0 ∧ (i0.zero.map (·.cells.size), i0.size, i0.bytes) = (some size, size, bytes) := by
    cases hi : Try.prog.info? e with
    | none => rw [hi] at info; cases info
    | some i0 => rw [hi] at info; exact ⟨i0, rfl, Option.some.inj info⟩
  simp only [Prod.mk.injEq] at hp
  obtain ⟨hz, hz1, hz2⟩ := hp
  obtain ⟨z, hz0, hzs⟩ : ∃ z, i0.zero = some z ∧ z.cells.size = size := by
    cases hzz : i0.zero with
    | none => rw [hzz] at hz; cases hz
    | some z => rw [hzz] at hz; exact ⟨z, rfl, Option.some.inj hz⟩
  have hb8 : (n + m) * bytes ≤ 140737488355328 := by
    have h1 : (n + m) * bytes ≤ 100000 * 64 := Nat.mul_le_mul hnm hbyt
    omega
  have hmax : n + m ≤ maxLen := by unfold maxLen; omega
  refine wpList_plain hgd fun K hK => ?_
  obtain ⟨v', w', hrun, h2, h3, h4⟩ := run_append_own (P := Try.prog) W base t o.type e i0 z size bytes hu hinfo hz0 hz1 hz2 hzs hsz acc n xs hown ⟨g, 0, none⟩ m c ys hl hnews hone hmax hb8 hbW
  have hb := append_block (P := Try.prog) W base t o.type e i0 z hu hinfo hz0 (by rw [hz1]; exact hzs) (by omega) acc n xs (by rw [hz1]; exact hown) ⟨g, 0, none⟩ m c ys (by rw [hz1]; exact hl) hnews hone hmax (by rw [hz2]; exact hb8) hrun
  unfold Oper.wp execOp
  simp only [ho, resolve, invoke, builtin, Sem.run_bind, Sem.run_pure, Result.andThen_ok, List.map_toArray, List.map_cons, List.map_nil, hs, hx, hrun]
  exact hK _ _ (h _ _ h2 ⟨h3.os, h3.tape, h3.output, h3.size, fun k hk hne => h3.block k hk (fun c => hne c.symm), hb⟩)
end Go.Proofs.Ytjjapblpmpidcaa.UReg
namespace Go.Proofs.Ytjjapblpmpidcaa
open Go.RowKit Num UReg

/-! ### philox.steps: so many closures, each with its key -/
def keyI (k : Ky) : Nat → Ky
  | 0 => k
  | n + 1 => nextK (keyI k n)
theorem keyI_mix (b : Blk) (k : Ky) : ∀ n, (mixS b k n).2 = keyI k n
  | 0 => rfl
  | n + 1 => by rw [mixS, keyI, keyI_mix b k n]
/-- A closure's value. -/
def fnF (kb : Nat) : Value := .func (.func 96) #[] #[.pointer (some ⟨kb, 0, none⟩)]
def fnB (kb : Nat) : Value := .func (.func 98) #[] #[.pointer (some ⟨kb, 0, none⟩)]
def stepRow (K : List Nat) : List Value := K.flatMap fun kb => [fnF kb, fnB kb]
theorem stepRow_app (K : List Nat) (kb : Nat) : stepRow (K ++ [kb]) = stepRow K ++ [fnF kb, fnB kb] := by simp [stepRow]
/-- The keys lie in the blocks of K. -/
def KeysAt (w : World) (k : Ky) (K : List Nat) : Prop := ∀ i (h : i < K.length), Cells w K[i] (kCells (keyI k i))
theorem KeysAt.ext {w w' : World} {k : Ky} {K : List Nat} (h : KeysAt w k K) (x : Ext w w') : KeysAt w' k K := fun i hi => (h i hi).ext x

theorem stepInfo : (Try.prog.info? 158).map (fun i => (i.zero.map (·.cells.size), i.size, i.bytes)) = some (some 2, 2, 16) := by kernel_rfl

theorem two_new (w : World) (x y : Value) (t : TypeId) (b : Nat) (hb : b = w.heap.size) : ∀ j u, [x, y][j]? = some u → (w.alloc (.cells #[x, y] t)).cell? ((⟨b, 0, none⟩ : Addr).add j) = some u := by
  subst hb
  intro j u h
  match j with
  | 0 => simp at h; subst h; simp [Addr.add]
  | 1 => simp at h; subst h; simp [Addr.add]
  | j + 2 => simp at h
theorem KeysAt.app {w : World} {k : Ky} {K : List Nat} {kb : Nat} (h : KeysAt w k K) (hb : Cells w kb (kCells (keyI k K.length))) : KeysAt w k (K ++ [kb]) := fun i hi => by
  by_cases c : i < K.length
  · rw [List.getElem_append_left c]
    exact h i c
  · have e : i = K.length := by simp at hi; omega
    subst e
    rw [List.getElem_append_right (Nat.le_refl _)]
    simpa using hb
theorem KeysAt.grew {W w' : World} {acc v' : Value} {k : Ky} {K : List Nat} (h : Grew W w' acc v') (hb : ∀ kb ∈ K, acc.ownBlock ≠ some kb) (c : KeysAt W k K) : KeysAt w' k K := fun i hi => h.cells (hb _ (List.getElem_mem hi)) (c i hi)
theorem KeysAt.other {w : World} {k : Ky} {K : List Nat} (h : KeysAt w k K) {b : Nat} (hb : ∀ kb ∈ K, b ≠ kb) (o : Nat) (u : Value) : KeysAt (w.setCell ⟨b, o, none⟩ u) k K := fun i hi => (h i hi).other (hb _ (List.getElem_mem hi)) o u
set_option maxHeartbeats 4000000 in
theorem pSteps (k : Ky) (n : Nat) (hn : n ≤ 100) (w : World) : Calls Try.prog 95 #[.agg #[.int .u32 k.1, .int .u32 k.2], .int .i64 n] w fun e w' =>
    ∃ v K, e = .returned (.tuple #[v, .int .i64 0]) ∧ K.length = n ∧ w'.ownsRow (w.heap.size + 1) 158 2 v n (stepRow K) ∧ (∀ kb ∈ K, w.heap.size < kb) ∧ KeysAt w' k K ∧ Ext w w' := by
  obtain ⟨k0, k1⟩ := k
  have t1 : decide ((n : Int) < 0) = false := decide_eq_false (by omega)
  have t2 : decide (100 < (n : Int)) = false := decide_eq_false (by omega)
  go_enter Try.func95, Try.ntmps95
  go_wp2_with fail
  go_loopw [6, 7, 15] (fun l _ iv wr => ∃ (i : Nat) (K : List Nat), i ≤ n ∧ iv = .int .i64 i ∧ Ext w wr ∧ w.heap.size + 1 ≤ wr.heap.size ∧ K.length = i ∧ wr.ownsRow (w.heap.size + 1) 158 2 l i (stepRow K)
      ∧ (∀ kb ∈ K, l.ownBlock ≠ some kb ∧ w.heap.size < kb) ∧ KeysAt wr (k0, k1) K ∧ Cells wr w.heap.size (kCells (keyI (k0, k1) i)))
    (fun _ _ iv _ => n - (intOf iv).toNat)
  case atStart =>
    refine ⟨0, [], by omega, rfl, ?_, by simp, rfl, own_nil _ _ _ _, by simp, fun i hi => absurd hi (by simp), ?_⟩
    · repeat (first | with_reducible exact Ext.refl _ | with_reducible refine Ext.alloc ?_ _ | (with_reducible refine Ext.setCell ?_ (by simp <;> omega) _) | with_reducible refine Ext.drew ?_)
    · exact Cells.mk2 (by go_simp <;> rfl) (by go_simp <;> rfl) (by go_simp) (by go_simp)
  case round =>
    obtain ⟨i, K, hi', rfl, HX, z1, hK, hown, hne, hkeys, hs⟩ := hrel
    have HX_r := Lib.hid HX; clear HX
    have HO := Lib.hid hown; clear hown
    have HN := Lib.hid hne; clear hne
    have HK := Lib.hid hK; clear hK
    have HKs := Lib.hid hkeys; clear hkeys
    by_cases hlt : i < n
    · have hlt' : (i : Int) < (n : Int) := by omega
      obtain ⟨⟨l0, l1⟩, hl⟩ : ∃ t, keyI (k0, k1) i = t := ⟨_, rfl⟩
      obtain ⟨⟨m0, m1⟩, hm⟩ : ∃ t, nextK (l0, l1) = t := ⟨_, rfl⟩
      rw [hl] at hs
      have HKN := Lib.hid (show keyI (k0, k1) (i + 1) = (m0, m1) by rw [keyI, hl, hm])
      have HL := Lib.hid hl
      have HNx := Lib.hid (pNext hm)
      clear hl hm
      obtain ⟨q0, q1, qf0, qf1⟩ := hs.two
      have zz : w.heap.size < wr.heap.size := by omega
      simp only at q0 q1
      have hW : Ext wr ((wr.alloc (.cells #[.int .u32 l0, .int .u32 l1] 86)).alloc (.cells #[fnF wr.heap.size, fnB wr.heap.size] 158)) := ((Ext.refl wr).alloc _).alloc _
      have hown1 := own_ext HO.out hW
      have hkey1 : Cells ((wr.alloc (.cells #[.int .u32 l0, .int .u32 l1] 86)).alloc (.cells #[fnF wr.heap.size, fnB wr.heap.size] 158)) wr.heap.size (kCells (l0, l1)) :=
        Cells.ext (Cells.mk2 (by simp) (by simp) (by simp) (by simp)) ((Ext.refl (wr.alloc (.cells #[.int .u32 l0, .int .u32 l1] 86))).alloc _)
      have hs1 := hs.ext hW
      have hks1 := HKs.out.ext hW
      have X1 := Lib.hid (HX_r.out.trans hW)
      have hlt1 := HO.out.lt
      have hZ := Lib.hid (show w.heap.size + 1 ≤ ((wr.alloc (.cells #[.int .u32 l0, .int .u32 l1] 86)).alloc (.cells #[fnF wr.heap.size, fnB wr.heap.size] 158)).heap.size by simp; omega)
      have HLT := Lib.hid hlt1
      clear hW hs hlt1
      go_wp2_with (at_builtin; refine wpList_appendV Try.underlying153 stepInfo (by decide) (by decide) rfl (.tmp 18) (.tmp 22) rfl _ (w.heap.size + 1) _ i 1 (wr.heap.size + 1) 1 (stepRow K) [fnF wr.heap.size, fnB wr.heap.size] rfl rfl hown1 rfl (two_new _ _ _ _ _ (by simp)) (by intro u hu; simp at hu; rcases hu with rfl | rfl <;> rfl) (by omega) hZ.out ?_)
      intro v' w6 hown6 hg6
      have hnw : u6.ownBlock ≠ some wr.heap.size := fun e => by have := (HLT.out _ e).2; omega
      have hnb : u6.ownBlock ≠ some w.heap.size := fun e => by have := (HLT.out _ e).1; omega
      have hkey6 := hg6.cells hnw hkey1
      have hs6 := hg6.cells hnb hs1
      have hks6 := KeysAt.grew hg6 (fun kb hkb => (HN.out kb hkb).1) hks1
      have X6 := Lib.hid (hg6.ext X1.out (fun g hg => by have := (HLT.out g hg).1; omega))
      have hne6 : ∀ kb ∈ K ++ [wr.heap.size], v'.ownBlock ≠ some kb ∧ w.heap.size < kb := by
        intro kb hkb
        rw [List.mem_append] at hkb
        rcases hkb with hkb | hkb
        · refine ⟨hg6.ne (HN.out kb hkb).1 ?_, (HN.out kb hkb).2⟩
          obtain ⟨j, hj, rfl⟩ := List.getElem_of_mem hkb
          exact (hks1 j hj).lt
        · simp at hkb
          subst hkb
          exact ⟨hg6.ne hnw hkey1.lt, by omega⟩
      have hka := KeysAt.app hks6 (kb := wr.heap.size) (by rw [HK.out, HL.out]; exact hkey6)
      have z6 := hg6.size
      simp at z6
      have HNE := Lib.hid hne6
      have HKA := Lib.hid hka
      have HO6 := Lib.hid hown6
      clear hg6 hks6 hkey6 hka hne6 hown6 hnw hnb hkey1 hs1 hks1 hown1 q0 q1 qf0 qf1
      obtain ⟨q0, q1, qf0, qf1⟩ := hs6.two
      simp only at q0 q1
      go_wp2_with fail
      refine (HNx.out _).mono ?_
      rintro e w7 ⟨rfl, hx⟩
      have hs7 := hs6.ext hx
      have hka7 := HKA.out.ext hx
      have hown7 := own_ext HO6.out hx
      have y7 := hx.size
      have X7 := Lib.hid (X6.out.trans hx)
      clear hx hs6 q0 q1 qf0 qf1
      have HKA7 := Lib.hid hka7
      have HO7 := Lib.hid hown7
      clear hka7 hown7
      obtain ⟨q0, q1, qf0, qf1⟩ := hs7.two
      go_wp2_with fail
      go_roundw
      case rel =>
        have hne := HNE.out
        refine ⟨i + 1, K ++ [wr.heap.size], by omega, by simp, ?_, by simp; omega, by simp [HK.out], ?_, hne, ?_, ?_⟩
        · repeat (first | with_reducible exact X7.out | (with_reducible refine Ext.setCell ?_ (by simp <;> omega) _))
        · rw [stepRow_app]
          exact own_set (own_set HO7.out (by simp) _) (by simp) _
        · exact (HKA7.out.other (fun kb hkb => by have := (hne kb hkb).2; omega) _ _).other (fun kb hkb => by have := (hne kb hkb).2; omega) _ _
        · rw [HKN.out]
          exact (hs7.set 0 _).set 1 _
      case measure => simp [intOf]; omega
    · obtain rfl : i = n := by omega
      go_wp2_with fail
      refine bodyPost_ret (v := ?_) ?_ rfl ⟨u6, K, ?_, HK.out, HO.out, fun kb h => (HN.out kb h).2, HKs.out, HX_r.out⟩
      rotate_left
      · simp only [results, Try.results95]
        go_simp
        with_reducible rfl
      · rfl
end Go.Proofs.Ytjjapblpmpidcaa
