import Derived.Test.YtjjapblpmpidcabW8
import Derived.Laws.AppendOwnNone
import Derived.Laws.BytesArg
set_option linter.unusedVariables false
set_option linter.unusedSimpArgs false
namespace Go.Proofs.Ytjjapblpmpidcab
open Go.RowKit Num UReg

/-! ### wide.Print -/
def decF : Nat → Nat → List Int
  | 0, n => [48 + (n : Int)]
  | f + 1, n => if n < 10 then [48 + (n : Int)] else decF f (n / 10) ++ [48 + ((n % 10 : Nat) : Int)]
/-- The decimal digits of a number, as bytes. -/
def dec (n : Nat) : List Int := decF 40 n
theorem decF_more : ∀ f n, n < 10 ^ (f + 1) → decF (f + 1) n = decF f n
  | 0, n, h => by simp only [decF]; rw [if_pos (by omega)]
  | f + 1, n, h => by
    rw [decF]
    conv => rhs; rw [decF]
    by_cases c : n < 10
    · rw [if_pos c, if_pos c]
    · rw [if_neg c, if_neg c, decF_more f (n / 10) (by rw [Nat.pow_succ] at h; omega)]
theorem dec_small (n : Nat) (h : n < 10) : dec n = [48 + (n : Int)] := by
  unfold dec
  rw [decF, if_pos h]
theorem dec_big (n : Nat) (h : 10 ≤ n) (h2 : n < 340282366920938463463374607431768211456) : dec n = dec (n / 10) ++ [48 + ((n % 10 : Nat) : Int)] := by
  unfold dec
  rw [decF, if_neg (by omega), decF_more 39 (n / 10) (by omega)]
theorem decF_length : ∀ f n, (decF f n).length ≤ f + 1
  | 0, n => by simp [decF]
  | f + 1, n => by
    rw [decF]
    split
    · simp
    · simp only [List.length_append, List.length_cons, List.length_nil]
      have := decF_length f (n / 10)
      omega
theorem dec_length (n : Nat) : (dec n).length ≤ 41 := decF_length 40 n

theorem UReg.Reads.set {w : World} {k : IntKind} {v : Value} {xs : List Int} (h : Reads w k v xs) {b : Nat} (hb : ∀ g, v.ownBlock = some g → b < g) (j : Nat) (u : Value) : Reads (w.setCell ⟨b, j, none⟩ u) k v xs := by
  rcases h with h | ⟨g, cap, rfl, hc⟩
  · exact .inl h
  · refine .inr ⟨g, cap, rfl, fun j' hj => ?_⟩
    have := hb g rfl
    rw [World.cell?_setCell_other (h := by intro e; injection e with e1 _ _; omega), hc j' hj]
/-- 'append([]byte{d}, bs...)', bs nil or not. -/
theorem wpList_prepend {ops : Array Oper} {rest : List Oper} {o : Oper} {a : Act} {Q : Exit → Act → World → Prop} (hgd : o.guard = none) (s x : Operand)
    (ho : o.op = .call { callee := .builtin .append, args := #[s, x], argTypes := #[60, 60] }) (W : World) (d : Int) (acc : Value) (bs : List Int)
    (g0 : Nat) (hs : a.eval s = .slice (some ⟨g0, 0, none⟩) 1 1) (hg : g0 = W.heap.size) (hx : a.eval x = acc) (hr : Reads (W.alloc (.cells #[.int .u8 d] 5)) .u8 acc bs) (hl : bs.length ≤ 1000)
    (h : ∀ v' w', Reads w' .u8 v' (d :: bs) → (∀ k, v'.ownBlock = some k → W.heap.size ≤ k) → Ext W w' → wpList Try.prog ops Q rest (a.put o.dst v') w') : wpList Try.prog ops Q (o :: rest) a (W.alloc (.cells #[.int .u8 d] 5)) := by
  subst hg
  have info : (Try.prog.info? 5).map (fun i => (i.zero, i.size, i.bytes)) = some (some (.int .u8 0), 1, 1) := by kernel_rfl
  obtain ⟨i0, hinfo, hz0, hz1, hz2⟩ := info_parts info
  have hown : (W.alloc (.cells #[.int .u8 d] 5)).ownsRow W.heap.size 5 1 (.slice (some ⟨W.heap.size, 0, none⟩) 1 1) 1 [.int .u8 d] :=
    World.ownsRow_lit W #[.int .u8 d] 1 (Nat.le_refl _) (by unfold maxLen; omega) rfl
  rcases hr with ⟨rfl, rfl⟩ | ⟨g, cap, rfl, hc⟩
  · refine wpList_append_own_none hgd s x 60 ho W.heap.size 5 i0 1 Try.underlying60 hinfo _ 1 [.int .u8 d] hs hown hx ?_
    exact h _ _ (Reads.of_own (xs := [d]) hown) (own_ge hown) ((Ext.refl _).alloc _)
  · refine wpList_append_own _ hgd s x 60 ho W.heap.size 5 i0 (.int .u8 0) 1 1 Try.underlying60 hinfo hz0 hz1 hz2 rfl (by decide) _ 1 [.int .u8 d] hs hown ⟨g, 0, none⟩ bs.length cap (bs.map (Value.int .u8)) hx (by simp) ?_ ?_ (by unfold maxLen; omega) (by omega) (by simp) ?_
    · intro j u hj
      have hjl : j < bs.length := by
        have := (List.getElem?_eq_some_iff.1 hj).1
        simpa using this
      have : (⟨g, 0, none⟩ : Addr).add j = ⟨g, j, none⟩ := by unfold Addr.add; split <;> simp_all
      rw [this, hc j hjl]
      simpa [hjl] using hj
    · intro u hu
      simp only [List.mem_map] at hu
      obtain ⟨n, _, rfl⟩ := hu
      rfl
    · intro v' w' h1 h2 _
      have e : 1 + bs.length = (d :: bs).length := by simp; omega
      rw [e] at h1
      exact h _ _ (Reads.of_own (xs := d :: bs) h1) (own_ge h1) (Ext.grown ((Ext.refl _).alloc _) hown h2 (Nat.le_refl _))
theorem wTenE {a t : V} (h : tenth a = t) (w : World) : Calls Try.prog 67 #[.agg #[.int .u64 (hi a), .int .u64 (lo a)]] w fun e w' =>
    e = .returned (.tuple #[.agg #[.int .u64 (hi t), .int .u64 (lo t)], .int .u8 (digit a)]) ∧ Ext w w' := by
  rw [← h]
  exact wTen a w

set_option maxHeartbeats 2000000 in
theorem wPrint (a : V) (w : World) : Calls Try.prog 52 #[.agg #[.int .u64 (hi a), .int .u64 (lo a)]] w fun e w' =>
    e = .returned (.string (strOfNums (dec a.toNat))) ∧ Ext w w' := by
  go_enter Try.func52, Try.ntmps52
  go_wp2_with fail
  refine wp_scope_once 0 (fun a' w' => ∃ (N : V) (bs : List Int) (acc u4 u5 u6 u7 u8 u9 u10 u11 u12 u13 u14 u15 u16 u17 u18 u19 : Value),
      a' = { tmps := #[.agg #[.int .u64 (hi a), .int .u64 (lo a)], .pointer (some ⟨w.heap.size, 0, none⟩), .string ⟨#[]⟩, acc, u4, u5, u6, u7, u8, u9, u10, u11, u12, u13, u14, u15, u16, u17, u18, u19], defers := [] }
      ∧ Ext w w' ∧ Cells w' w.heap.size [.int .u64 (hi N), .int .u64 (lo N)] ∧ Reads w' .u8 acc bs ∧ (∀ g, acc.ownBlock = some g → w.heap.size < g) ∧ dec a.toNat = dec N.toNat ++ bs) (fun _ w' => (numAt w' w.heap.size).toNat) rfl ?_ ?_
  · intro hround
    go_wp2_with fail
    go_step3
    go_step
    go_step
    exact hround _ _ ⟨a, [], _, _, _, _, _, _, _, _, _, _, _, _, _, _, _, _, _, rfl, (Ext.refl _).alloc _, Cells.mk2 (by go_simp) (by go_simp) (by go_simp) (by go_simp), .inl ⟨rfl, rfl⟩, by intro g h; simp [Value.ownBlock] at h, by simp⟩
  · rintro a' w' ⟨N, bs, acc, u4, u5, u6, u7, u8, u9, u10, u11, u12, u13, u14, u15, u16, u17, u18, u19, rfl, HX, hN, hr, hbk, hinv⟩
    have hlt := hN.lt
    have HB := Lib.hid hbk; clear hbk
    obtain ⟨n0, n1, nf0, nf1⟩ := hN.two
    have HINV := Lib.hid hinv; clear hinv
    have HNW := Lib.hid (numAt_eq hN)
    have HX_r := Lib.hid HX; clear HX
    obtain ⟨T, hT⟩ : ∃ t, tenth N = t := ⟨_, rfl⟩
    have HT := Lib.hid hT; clear hT
    obtain ⟨d, hd⟩ : ∃ d, digit N = d := ⟨_, rfl⟩
    have HD := Lib.hid hd; clear hd
    have hTen : ∀ w, Calls Try.prog 67 #[.agg #[.int .u64 (hi N), .int .u64 (lo N)]] w fun e w' =>
        e = .returned (.tuple #[.agg #[.int .u64 (hi T), .int .u64 (lo T)], .int .u8 d]) ∧ Ext w w' := by
      rw [← HD.out]
      exact wTenE HT.out
    have HTen := Lib.hid hTen; clear hTen
    have hd0 : 0 ≤ d := by rw [← HD.out]; unfold digit; omega
    have hd1 : d < 10 := by rw [← HD.out]; unfold digit; omega
    go_wp2_with fail
    refine (HTen.out _).mono ?_
    rintro e w2 ⟨rfl, hx⟩
    have hN2 := hN.ext hx
    have hr2 := hr.ext hx
    have HX_2 := Lib.hid (HX_r.out.trans hx)
    have hs2 := hx.size
    clear hx hN hr n0 n1 nf0 nf1
    obtain ⟨n0, n1, nf0, nf1⟩ := hN2.two
    have hl : bs.length ≤ 1000 := by
      have h1 := congrArg List.length HINV.out
      have h2 := dec_length a.toNat
      rw [List.length_append] at h1
      omega
    go_wp2_with (at_builtin; refine wpList_prepend rfl _ _ rfl _ _ _ bs _ rfl ?hg rfl ?hr hl ?_)
    case hg => simp
    case hr => exact ((hr2.set HB.out _ _).set HB.out _ _).ext ((Ext.refl _).alloc _)
    intro v' w3 hr3 hb3 hx3
    have hN3 := ((hN2.set 0 (.int .u64 (hi T))).set 1 (.int .u64 (lo T))).ext hx3
    have X3 : Ext w w3 := ((HX_2.out.setCell (by simp) _).setCell (by simp) _).trans hx3
    have HX_3 := Lib.hid X3
    have hs3 := hx3.size
    have HB3 := Lib.hid hb3
    simp at hs3
    clear X3 hx3 hN2 hr2 hb3 n0 n1 nf0 nf1
    have hN4 : Cells w3 w.heap.size [.int .u64 (hi T), .int .u64 (lo T)] := hN3
    clear hN3
    obtain ⟨n0, n1, nf0, nf1⟩ := hN4.two
    by_cases hz : T = 0#128
    · have hsmall : N.toNat < 10 := by
        have h1 := toNat_tenth N
        rw [HT.out, hz, show (0#128 : V).toNat = 0 from rfl] at h1
        omega
      have hout : dec a.toNat = (48 + d) :: bs := by
        rw [HINV.out, dec_small _ hsmall, ← HD.out]
        unfold digit
        rw [Nat.mod_eq_of_lt hsmall]
        rfl
      have HO := Lib.hid hout
      rw [hz, hi_zero] at n0
      rw [hz, lo_zero] at n1
      rcases hr3 with ⟨_, h⟩ | ⟨g, cap, rfl, hc⟩
      · cases h
      have hcv : (convert 60 9 (.slice (some ⟨g, 0, none⟩) (bs.length + 1) cap)).run Try.prog w3 = .ok (.string (strOfNums ((48 + d) :: bs))) w3 := by
        refine run_convert_bytes_arg w3 60 5 Try.underlying60 Try.underlying5 g 0 _ cap ((48 + d) :: bs) (by simp) (fun j hj => ?_) 9 Try.underlying9
        have hj' : j < ((48 + d) :: bs).length := by simpa using hj
        rw [Nat.zero_add, hc j hj', List.getD_eq_getElem?_getD, List.getElem?_eq_getElem hj']
        rfl
      simp only [List.length_cons]
      clear hz hsmall hout hc HB3
      go_wp2
      change bodyPost Try.prog Try.f52 (fun e w' => e = .returned (.string (strOfNums (dec a.toNat))) ∧ Ext w w') Exit.ret _ _
      refine bodyPost_ret (v := ?_) ?_ rfl ⟨?_, ?_⟩
      rotate_left
      · simp only [results, Try.results52]
        go_simp
        with_reducible rfl
      · rw [HO.out]
      · exact HX_3.out
    · go_wp2_with fail
      go_step3
      refine ⟨rfl, ⟨T, (48 + d) :: bs, v', _, _, _, _, _, _, _, _, _, _, _, _, _, _, _, _, rfl, HX_3.out, hN4, hr3, fun g hg => ?_, ?_⟩, ?_⟩
      · have := HB3.out g hg
        first
          | omega
          | (simp at this; omega)
      · have hbig : 10 ≤ N.toNat := by
          refine Nat.le_of_not_lt fun h => hz ?_
          have h1 := toNat_tenth N
          rw [HT.out] at h1
          exact BitVec.eq_of_toNat_eq (by rw [h1]; simp; omega)
        have h1 := toNat_tenth N
        rw [HT.out] at h1
        rw [HINV.out, dec_big _ hbig N.isLt, h1, ← HD.out]
        simp [digit]
      · show (numAt w3 w.heap.size).toNat < (numAt w' w.heap.size).toNat
        have h1 := toNat_tenth N
        rw [HT.out] at h1
        have h2 : T.toNat ≠ 0 := fun h => hz (BitVec.eq_of_toNat_eq h)
        rw [numAt_eq hN4, HNW.out, ← toNat_eq, ← toNat_eq]
        omega
end Go.Proofs.Ytjjapblpmpidcab
