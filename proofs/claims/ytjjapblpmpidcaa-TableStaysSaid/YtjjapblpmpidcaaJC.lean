import Derived.Test.YtjjapblpmpidcaaJB
set_option linter.unusedVariables false
set_option linter.unusedSimpArgs false
namespace Go.Proofs.Ytjjapblpmpidcaa
open Go.RowKit UReg

theorem UReg.Tab.up {e : TypeId} {B tb : Nat} {A W w' : World} {v v' : Value} {L : List (Int × Int)} {nx : Int} (h : Tab e B W tb v L nx) (c : Chg tb v v' W w') (x : Ext A W) (hB : A.heap.size ≤ B) : Ext A w' :=
  c.ext x (Nat.le_trans hB h.base) fun g hg => Nat.le_trans hB (h.own.ge g hg)
theorem UReg.Apart.new {e e' : TypeId} {B tb tc : Nat} {w w' : World} {v u : Value} {L M : List (Int × Int)} {nx mx : Int} (h : Tab e B w tb v L nx) (k : Tab e' w.heap.size w' tc u M mx) : Apart tb v tc u := by
  have h1 := h.lt
  have h2 := k.base
  refine ⟨by omega, fun e => ?_, fun e => ?_, fun g e e' => ?_⟩
  · have := h.own.lt _ e; omega
  · have := k.own.ge _ e; omega
  · have := h.own.lt _ e; have := k.own.ge _ e'; omega
theorem wt_nil : WT [] 0 := ⟨by simp, by omega, by omega, by simp, by simp⟩

/-! ### awake -/
def bL (k : Nat) : List (Int × Int) := [(1, 8), (5, 9)] ++ (List.range k).map fun i : Nat => ((8 + (i : Int)), (1 : Int))
theorem bL_length (k : Nat) : (bL k).length = k + 2 := by simp [bL]
theorem bL_add (k : Nat) (hk : k < 14) : addE (bL k) (8 + k) = 0 ∧ addL (bL k) (8 + k) 1 = bL (k + 1) ∧ addN (bL k) (8 + k) = 8 + (k + 1 : Nat) := by
  have h : addE (bL k) (8 + k) = 0 := by
    unfold addE
    rw [if_neg (by rw [bL_length]; omega), if_neg (by omega)]
  refine ⟨h, ?_, ?_⟩
  · unfold addL
    rw [if_pos h]
    simp [bL, List.range_succ]
  · unfold addN
    rw [if_pos h]
    omega
theorem bL_wt : ∀ k, k ≤ 14 → WT (bL k) (8 + k)
  | 0, _ => ⟨by decide, by decide, by decide, by decide, by decide⟩
  | k + 1, hk => by
    obtain ⟨_, h1, h2⟩ := bL_add k (by omega)
    rw [← h1, ← h2]
    exact (bL_wt k (by omega)).add 1
theorem tAddC {B tb : Nat} {v : Value} {L L' : List (Int × Int)} {nx r q n' : Int} {w : World} (h : Tab RT B w tb v L nx) (hw : WT L nx) (x : Int) (hr : addR L nx = r) (hq : addE L nx = q) (hL : addL L nx x = L') (hn : addN L nx = n') :
    Calls Try.prog 58 #[.pointer (some ⟨tb, 0, none⟩), .int .u64 x] w fun e w' => ∃ v', e = .returned (.tuple #[.int .i64 r, .int .i64 q]) ∧ Tab RT B w' tb v' L' n' ∧ Chg tb v v' w w' := by
  have := tAdd h hw x
  rwa [hr, hq, hL, hn] at this
theorem tDropC {B tb : Nat} {v : Value} {L L' : List (Int × Int)} {nx : Int} {F : Bool} {w : World} (h : Tab RT B w tb v L nx) (hw : WT L nx) (a : Int) (hF : has a L = F) (hL : dropL a L = L') :
    Calls Try.prog 59 #[.pointer (some ⟨tb, 0, none⟩), .int .i64 a] w fun e w' => ∃ v', e = .returned (.bool F) ∧ Tab RT B w' tb v' L' nx ∧ Chg tb v v' w w' := by
  have := tDrop h hw a
  rwa [hF, hL] at this
theorem tLayC {B tb : Nat} {v : Value} {L L' : List (Int × Int)} {nx q n' : Int} {w : World} (h : Tab RT B w tb v L nx) (hw : WT L nx) (a x : Int) (hq : layE L nx a = q) (hL : layL L nx a x = L') (hn : layN L nx a = n') :
    Calls Try.prog 60 #[.pointer (some ⟨tb, 0, none⟩), .int .i64 a, .int .u64 x] w fun e w' => ∃ v', e = .returned (.int .i64 q) ∧ Tab RT B w' tb v' L' n' ∧ Chg tb v v' w w' := by
  have := tLay h hw a x
  rwa [hq, hL, hn] at this
theorem tGoesC {B tb : Nat} {v : Value} {L : List (Int × Int)} {nx q n' : Int} {w : World} (h : Tab RT B w tb v L nx) (a : Int) (hq : goE nx a = q) (hn : goN nx a = n') :
    Calls Try.prog 61 #[.pointer (some ⟨tb, 0, none⟩), .int .i64 a] w fun e w' => e = .returned (.int .i64 q) ∧ Tab RT B w' tb v L n' ∧ Chg tb v v w w' := by
  have := tGoes h a
  rwa [hq, hn] at this
theorem tGetC {B tb : Nat} {v : Value} {L : List (Int × Int)} {nx x : Int} {F : Bool} {w : World} (h : Tab RT B w tb v L nx) (hw : WT L nx) (a : Int) (hx : val a L = x) (hF : has a L = F) :
    Calls Try.prog 20 #[.pointer (some ⟨tb, 0, none⟩), .int .i64 a] w fun e w' => e = .returned (.tuple #[.int .u64 x, .bool F]) ∧ Ext w w' := by
  have := tGet h hw a
  rwa [hx, hF] at this
set_option maxRecDepth 100000 in
set_option maxHeartbeats 8000000 in
theorem awake19 (w : World) : Calls Try.prog 13 #[] w fun e w' => e = .returned (.bool true) ∧ Ext w w' := by
  go_enter Try.func13, Try.ntmps13
  go_wp2_with fail
  refine (tNew _).mono ?_
  rintro e w1 ⟨rfl, hT, hx⟩
  have T1 := Lib.hid hT
  have X1 := Lib.hid hx
  obtain ⟨tb, htb⟩ : ∃ tb, w.heap.size = tb := ⟨_, rfl⟩
  rw [htb] at T1
  have HB0 : w.heap.size ≤ tb := Nat.le_of_eq htb
  rw [htb]
  have HB := Lib.hid HB0
  clear HB0 htb
  clear hT hx
  go_wp2_with fail
  refine (tAddC T1.out wt_nil 7 (r := 0) (q := 0) (L' := [(0, 7)]) (n' := 1) (by decide) (by decide) (by decide) (by decide)).mono ?_
  rintro e w2 ⟨v2, rfl, hT, hC⟩
  have T2 := Lib.hid hT
  have X2 := Lib.hid (T1.out.up hC X1.out HB.out)
  clear hT hC T1 X1
  go_wp2_with fail
  refine (tAddC T2.out (⟨by decide, by decide, by decide, by decide, by decide⟩ : WT [(0, 7)] 1) 8 (r := 1) (q := 0) (L' := [(0, 7), (1, 8)]) (n' := 2) (by decide) (by decide) (by decide) (by decide)).mono ?_
  rintro e w3 ⟨v3, rfl, hT, hC⟩
  have T3 := Lib.hid hT
  have X3 := Lib.hid (T2.out.up hC X2.out HB.out)
  clear hT hC T2 X2
  go_wp2_with fail
  refine (tDropC T3.out (⟨by decide, by decide, by decide, by decide, by decide⟩ : WT [(0, 7), (1, 8)] 2) 0 (F := true) (L' := [(1, 8)]) (by decide) (by decide)).mono ?_
  rintro e w4 ⟨v4, rfl, hT, hC⟩
  have T4 := Lib.hid hT
  have X4 := Lib.hid (T3.out.up hC X3.out HB.out)
  clear hT hC T3 X3
  go_wp2_with fail
  refine (tDropC T4.out (⟨by decide, by decide, by decide, by decide, by decide⟩ : WT [(1, 8)] 2) 0 (F := false) (L' := [(1, 8)]) (by decide) (by decide)).mono ?_
  rintro e w5 ⟨v5, rfl, hT, hC⟩
  have T5 := Lib.hid hT
  have X5 := Lib.hid (T4.out.up hC X4.out HB.out)
  clear hT hC T4 X4
  go_wp2_with fail
  refine (tLayC T5.out (⟨by decide, by decide, by decide, by decide, by decide⟩ : WT [(1, 8)] 2) 1 5 (q := 1) (L' := [(1, 8)]) (n' := 2) (by decide) (by decide) (by decide)).mono ?_
  rintro e w6 ⟨v6, rfl, hT, hC⟩
  have T6 := Lib.hid hT
  have X6 := Lib.hid (T5.out.up hC X5.out HB.out)
  clear hT hC T5 X5
  go_wp2_with fail
  refine (tLayC T6.out (⟨by decide, by decide, by decide, by decide, by decide⟩ : WT [(1, 8)] 2) 5 9 (q := 0) (L' := [(1, 8), (5, 9)]) (n' := 6) (by decide) (by decide) (by decide)).mono ?_
  rintro e w7 ⟨v7, rfl, hT, hC⟩
  have T7 := Lib.hid hT
  have X7 := Lib.hid (T6.out.up hC X6.out HB.out)
  clear hT hC T6 X6
  go_wp2_with fail
  refine (tGoesC T7.out 5 (q := 1) (n' := 6) (by decide) (by decide)).mono ?_
  rintro e w8 ⟨rfl, hT, hC⟩
  have T8 := Lib.hid hT
  have X8 := Lib.hid (T7.out.up hC X7.out HB.out)
  clear hT hC T7 X7
  go_wp2_with fail
  refine (tGoesC T8.out 8 (q := 0) (n' := 8) (by decide) (by decide)).mono ?_
  rintro e w9 ⟨rfl, hT, hC⟩
  have T9 := Lib.hid hT
  have X9 := Lib.hid (T8.out.up hC X8.out HB.out)
  clear hT hC T8 X8
  go_wp2_with fail
  refine (tGetC T9.out (⟨by decide, by decide, by decide, by decide, by decide⟩ : WT [(1, 8), (5, 9)] 8) 5 (x := 9) (F := true) (by decide) (by decide)).mono ?_
  rintro e w10 ⟨rfl, hx⟩
  have T10 := Lib.hid (T9.out.ext hx)
  have X10 := Lib.hid (X9.out.trans hx)
  clear hx T9 X9
  go_wp2_with fail
  refine (tGetC T10.out (⟨by decide, by decide, by decide, by decide, by decide⟩ : WT [(1, 8), (5, 9)] 8) 0 (x := 0) (F := false) (by decide) (by decide)).mono ?_
  rintro e w11 ⟨rfl, hx⟩
  have T11 := Lib.hid (T10.out.ext hx)
  have X11 := Lib.hid (X10.out.trans hx)
  clear hx T10 X10
  go_wp2_with fail
  refine (tCopy T11.out (by decide) (fun x => IntKind.u64.wrap (x + 1)) cfAwake fNext).mono ?_
  rintro e w12 ⟨tc, u, rfl, hc, hx⟩
  have A12 := Lib.hid (Apart.new T11.out hc)
  have T12 := Lib.hid (T11.out.ext hx)
  have X12 := Lib.hid (X11.out.trans hx)
  have C12 := Lib.hid (show Tab RT w11.heap.size w12 tc u [(1, 9), (5, 10)] 8 from hc)
  clear hc hx T11 X11
  go_wp2_with fail
  refine (tGetC C12.out (⟨by decide, by decide, by decide, by decide, by decide⟩ : WT [(1, 9), (5, 10)] 8) 1 (x := 9) (F := true) (by decide) (by decide)).mono ?_
  rintro e w13 ⟨rfl, hx⟩
  have T13 := Lib.hid (T12.out.ext hx)
  have C13 := Lib.hid (C12.out.ext hx)
  have X13 := Lib.hid (X12.out.trans hx)
  clear hx T12 C12 X12
  go_wp2_with fail
  go_loopw [65] (fun iv wr => ∃ k : Nat, k ≤ 14 ∧ iv = .int .i64 k ∧ ∃ v, Tab RT tb wr tb v (bL k) (8 + k) ∧ Apart tb v tc u ∧ Tab RT w11.heap.size wr tc u [(1, 9), (5, 10)] 8 ∧ Ext w wr)
    (fun iv _ => 14 - (intOf iv).toNat)
  case atStart => exact ⟨0, by omega, rfl, _, T13.out, A12.out, C13.out, X13.out⟩
  case round =>
    clear T13 A12 C13 X13
    obtain ⟨k, hk, rfl, v, hT, hA, hC, hX⟩ := hrel
    by_cases hlt : k < 14
    · obtain ⟨b1, b2, b3⟩ := bL_add k hlt
      have HA := Lib.hid (tAddC hT (bL_wt k hk) 1 rfl b1 b2 b3)
      have hT := Lib.hid hT
      have hA := Lib.hid hA
      have hC := Lib.hid hC
      have hX := Lib.hid hX
      clear b1 b2 b3
      go_wp2_with fail
      refine HA.out.mono ?_
      rintro e w1 ⟨v', rfl, hT', hG⟩
      have G1 := Lib.hid hG
      have T1 := Lib.hid hT'
      clear hT' hG
      go_wp2_with fail
      go_roundw
      case rel => exact ⟨k + 1, by omega, by simp, v', T1.out, hA.out.chg hC.out G1.out, hC.out.other hA.out G1.out, hT.out.up G1.out hX.out HB.out⟩
      case measure => simp [intOf]; omega
    · obtain rfl : k = 14 := by omega
      have HA := Lib.hid (tAddC hT (bL_wt 14 hk) 1 (r := 0) (q := 5) (L' := bL 14) (n' := 22) (by decide) (by decide) (by decide) (by decide))
      have hT := Lib.hid hT
      have hA := Lib.hid hA
      have hC := Lib.hid hC
      have hX := Lib.hid hX
      go_wp2_with fail
      refine HA.out.mono ?_
      rintro e w1 ⟨v', rfl, hT', hG⟩
      have T1 := Lib.hid hT'
      have C1 := Lib.hid (hC.out.other hA.out hG)
      have X1 := Lib.hid (hT.out.up hG hX.out HB.out)
      clear hT' hG hT hA hC hX HA
      go_wp2_with fail
      refine (tNext T1.out).mono ?_
      rintro e w2 ⟨rfl, hx⟩
      have C2 := Lib.hid (C1.out.ext hx)
      have X2 := Lib.hid (X1.out.trans hx)
      clear hx T1 C1 X1
      go_wp2_with fail
      refine (tNext C2.out).mono ?_
      rintro e w3 ⟨rfl, hx⟩
      have C3 := Lib.hid (C2.out.ext hx)
      have X3 := Lib.hid (X2.out.trans hx)
      clear hx C2 X2
      go_wp2_with fail
      refine (tHandles C3.out (by decide)).mono ?_
      rintro e w4 ⟨z, rfl, ho, hx⟩
      have HR := Lib.hid (ho.reads.ext ((Ext.refl w4).alloc (.cells #[.int .i64 1, .int .i64 5] 3)))
      have HL := Lib.hid (OwnI.lit w4 w4.heap.size [1, 5] (Nat.le_refl _) (by decide)).reads
      have X4 := Lib.hid (X3.out.trans hx)
      clear hx ho C3 X3
      go_wp2_with fail
      refine (rInts _ _ [1, 5] (by decide) _ HR.out HL.out).mono ?_
      rintro e w5 ⟨rfl, hx⟩
      have X5 := Lib.hid ((X4.out.alloc _).trans hx)
      clear hx
      go_wp2
      go_ret
      exact ⟨rfl, X5.out⟩
end Go.Proofs.Ytjjapblpmpidcaa
