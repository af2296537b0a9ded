import Derived.Test.YtjjapblpmpidcaaJ6
import Derived.WalkSpells
set_option linter.unusedVariables false
set_option linter.unusedSimpArgs false
namespace Go.Proofs.Ytjjapblpmpidcaa
open Go.RowKit UReg

set_option maxHeartbeats 1000000 in
theorem tDrop {B tb : Nat} {v : Value} {L : List (Int × Int)} {nx : Int} {w : World} (h : Tab RT B w tb v L nx) (hw : WT L nx) (a : Int) :
    Calls Try.prog 59 #[.pointer (some ⟨tb, 0, none⟩), .int .i64 a] w fun e w' => ∃ v', e = .returned (.bool (has a L)) ∧ Tab RT B w' tb v' (dropL a L) nx ∧ Chg tb v v' w w' := by
  have HF := Lib.hid (tFind h hw a)
  cases hh : has a L
  · rw [drop_none a L hh]
    rw [hh] at HF
    have HT := Lib.hid h
    clear h hw hh
    go_enter Try.func59, Try.ntmps59
    go_wp2_with fail
    refine HF.out.mono ?_
    rintro e w1 ⟨rfl, hx⟩
    have hx := Lib.hid hx
    go_wp2
    go_ret
    exact ⟨v, rfl, HT.out.ext hx.out, .of_ext hx.out⟩
  · rw [hh] at HF
    obtain ⟨hj, _⟩ := (has_iff a L hw.sorted).1 hh
    have hde := drop_erase a L hw.sorted hh
    obtain ⟨c0, c1, f0, f1⟩ := h.cells.two
    obtain ⟨p, cap, hv, _, _, hcells⟩ := h.own.flat
    have hlt := h.lt
    obtain ⟨g, rfl, _, hg, _, _⟩ := hcells _ hj
    obtain ⟨N, hN⟩ : ∃ N, L.length = N + 1 := ⟨L.length - 1, by omega⟩
    have hn := hw.len
    rw [hN] at hv hj hn
    subst hv
    have HT := Lib.hid h
    have HD := Lib.hid fun (w1 : World) (x : Ext w w1) => tDelete (I := pos a L) (h.own.ext x) hj hn
    rw [hde] at HD
    obtain ⟨I, hI⟩ : ∃ I, pos a L = I := ⟨_, rfl⟩
    rw [hI] at HF HD hj
    have k1 : IntKind.i64.wrap ((I : Int) + 1) = I + 1 := IntWalk.i64_in _ (by omega)
    clear h hw hh hcells hI hN hde hj hn
    go_enter Try.func59, Try.ntmps59
    go_wp2_with fail
    refine HF.out.mono ?_
    rintro e w1 ⟨rfl, hx⟩
    obtain ⟨hc, hf⟩ := ext_cell hx
    have HX := Lib.hid hx; clear hx
    go_wp2_with fail
    refine (HD.out _ HX.out).mono ?_
    rintro e w2 ⟨rfl, ho, hg2⟩
    have hC := hg2.cells (HT.out.ne) (HT.out.cells.ext HX.out)
    obtain ⟨d0, d1, e0, e1⟩ := hC.two
    have HO := Lib.hid ho
    have HG := Lib.hid hg2
    clear ho hg2 hc hf c0 c1 f0 f1
    go_wp2
    go_ret
    have hne : (Value.slice (some ⟨g, 0, none⟩) N cap).ownBlock ≠ some tb := HT.out.ne
    refine ⟨_, rfl, ⟨HO.out.set hne _, hC.set 0 _, hne, HT.out.base⟩, ?_⟩
    exact ((Chg.of_ext HX.out).trans (Chg.grew HG.out)).set 0 _

/-! ### Handles -/
def hnd (L : List (Int × Int)) : List Int := L.map (·.1)
theorem hnd_take (L : List (Int × Int)) (k : Nat) (hk : k < L.length) : (hnd L).take (k + 1) = (hnd L).take k ++ [L[k].1] := by
  unfold hnd
  rw [List.take_succ_eq_append_getElem (by simpa using hk), List.getElem_map]
theorem hnd_length (L : List (Int × Int)) : (hnd L).length = L.length := by simp [hnd]
theorem reads_one2 (w : World) (o : Obj) (d : Int) : Reads ((w.alloc o).alloc (.cells #[.int .i64 d] 3)) .i64 (.slice (some ⟨w.heap.size + 1, 0, none⟩) 1 1) [d] := by
  have h := reads_one (w.alloc o) d
  simpa using h
set_option maxRecDepth 100000 in
set_option maxHeartbeats 2000000 in
theorem tHandles {B tb : Nat} {v : Value} {L : List (Int × Int)} {nx : Int} {w : World} (h : Tab RT B w tb v L nx) (hn : L.length ≤ 16) :
    Calls Try.prog 24 #[.pointer (some ⟨tb, 0, none⟩)] w fun e w' => ∃ u, e = .returned u ∧ OwnI w' w.heap.size u (hnd L) ∧ Ext w w' := by
  obtain ⟨c0, c1, f0, f1⟩ := h.cells.two
  obtain ⟨p, cap, rfl, hcap, _, hcells⟩ := h.own.flat
  have hlt := h.lt
  have HC := Lib.hid hcells
  obtain ⟨n, hl⟩ : ∃ n, L.length = n := ⟨_, rfl⟩
  rw [hl] at c0 hn
  have HL := Lib.hid hl
  clear h hcells hcap hl
  go_enter Try.func24, Try.ntmps24
  go_wp2_with fail
  go_loopw [3, 11] (fun u iv wr => ∃ k : Nat, k ≤ n ∧ iv = .int .i64 k ∧ Ext w wr ∧ OwnI wr w.heap.size u ((hnd L).take k))
    (fun _ iv _ => n - (intOf iv).toNat)
  case atStart => exact ⟨0, by omega, rfl, Ext.refl _, by simpa using OwnI.nil _ _⟩
  case round =>
    obtain ⟨k, hk, rfl, HX, hown⟩ := hrel
    have HX_r := Lib.hid HX; clear HX
    by_cases hlt' : k < n
    · have hki : (k : Int) < (n : Int) := by omega
      have hkL : k < L.length := by rw [HL.out]; exact hlt'
      obtain ⟨g, rfl, _, hg, d0, d1⟩ := HC.out k hkL
      obtain ⟨⟨a, x⟩, hr⟩ : ∃ t, L[k] = t := ⟨_, rfl⟩
      have hts := hnd_take L k hkL
      rw [hr] at d0 d1 hts
      simp only at d0 d1 hts
      have d0 := HX_r.out.cell d0
      have d1 := HX_r.out.cell d1
      have z := HX_r.out.size
      have zg : g < wr.heap.size := by omega
      have HTS := Lib.hid hts
      have hown1 := (hown.ext ((Ext.refl wr).alloc (.cells #[.int .i64 a, .int .u64 x] RT))).ext ((Ext.refl _).alloc (.cells #[.int .i64 a] 3))
      have hlen := hnd_length L
      have HLn := Lib.hid (show ((hnd L).take k).length ≤ 16 by rw [List.length_take]; omega)
      clear hts hr c0 c1 f0 f1 hown hlen
      go_wp2_with (at_builtin; refine wpList_appendI rfl (.tmp 15) (.tmp 18) rfl _ w.heap.size _ _ ((hnd L).take k) [a] rfl rfl hown1 (reads_one2 _ _ _) ?c1 ?c2 ?_)
      case c1 => have := HLn.out; simp only [List.length_cons, List.length_nil]; omega
      case c2 => simp; omega
      intro v' w3 hown3 hx3 hc3 hz3
      have X3 := Lib.hid (hx3 w (Nat.le_refl _) ((HX_r.out.alloc _).alloc _))
      clear hx3 hc3 hown1
      go_wp2_with fail
      go_roundw
      case rel =>
        refine ⟨k + 1, by omega, by simp, X3.out, ?_⟩
        rw [HTS.out]
        exact hown3
      case measure => simp [intOf]; omega
    · have hkn : k = n := by omega
      subst hkn
      have hlen := hnd_length L
      rw [List.take_of_length_le (by rw [hlen, HL.out]; omega)] at hown
      clear c0 c1 f0 f1 hlen
      go_wp2_with fail
      go_ret
      exact ⟨_, rfl, hown, HX_r.out⟩

/-! ### slices.Clone -/
set_option maxRecDepth 100000 in
set_option maxHeartbeats 2000000 in
theorem tClone {B : Nat} {v : Value} {L : List (Int × Int)} {w : World} (h : OwnP RT w B v L) (hn : L.length ≤ 16) :
    Calls Try.prog 64 #[v] w fun e w' => ∃ u, e = .returned u ∧ OwnP RT w' w.heap.size u L ∧ Ext w w' := by
  rcases h.2 with ⟨rfl, hz⟩ | ⟨g, cap, cur, rfl, _, hh, h1, h2, h3, h4⟩
  · have hL : L = [] := List.eq_nil_of_length_eq_zero hz
    subst hL
    clear h hn hz
    have hsn := fun (w : World) (a : Option Addr) (n c n' c' : Nat) => Lib.run_eql_slice_nil (P := Try.prog) w 111 RT a n c n' c' Try.underlying111
    go_enter Try.func64, Try.ntmps64
    go_wp2
    go_ret
    exact ⟨_, rfl, own_nil _ _ _ _, Ext.refl _⟩
  · have hcells : ∀ j u, (rowC L)[j]? = some u → w.cell? ((⟨g, 0, none⟩ : Addr).add j) = some u := h.cells (g := g) rfl
    have h0 := OwnP.lit RT w w.heap.size (Nat.le_refl _)
    have HN := Lib.hid fun j u hj => ((Ext.refl w).alloc (.cells #[] RT)).cell (hcells j u hj)
    have HR := Lib.hid (rowC_length L)
    have HO := Lib.hid (rowC_one L)
    obtain ⟨n, hl⟩ : ∃ n, L.length = n := ⟨_, rfl⟩
    rw [hl] at hn ⊢
    rw [hl] at HR
    have HL := Lib.hid hl
    clear h hh h1 h2 h3 h4 hcells hl
    have hsn := fun (w : World) (a : Option Addr) (n c n' c' : Nat) => Lib.run_eql_slice_nil (P := Try.prog) w 111 RT a n c n' c' Try.underlying111
    go_enter Try.func64, Try.ntmps64
    go_wp2_with (at_builtin; refine wpList_appendV (size := 2) (bytes := 16) Try.underlying111 rowInfo (by decide) (by decide) rfl (.tmp 5) (.tmp 6) rfl _ w.heap.size _ 0 n g cap (rowC []) (rowC L) rfl rfl h0 HR.out HN.out HO.out (by omega) (by simp) ?_)
    intro v' w1 hown1 hg1
    have HO1 := Lib.hid hown1
    have HG1 := Lib.hid hg1
    clear hown1 hg1
    go_wp2_with fail
    go_ret
    refine ⟨_, rfl, ?_, ?_⟩
    · have := HO1.out
      rw [rowC_nil, List.nil_append] at this
      unfold OwnP
      rw [HL.out]
      exact this
    · refine HG1.out.ext ((Ext.refl w).alloc _) fun g hg => ?_
      simp [Value.ownBlock] at hg
      omega
end Go.Proofs.Ytjjapblpmpidcaa
