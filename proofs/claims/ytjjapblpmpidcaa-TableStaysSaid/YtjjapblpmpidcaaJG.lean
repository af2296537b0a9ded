import Derived.Test.YtjjapblpmpidcaaJF
import Derived.Test.YtjjapblpmpidcaaR6
set_option linter.unusedVariables false
set_option linter.unusedSimpArgs false
namespace Go.Proofs.Ytjjapblpmpidcaa
open Go.RowKit UReg

theorem act_cells2 (w : World) (d b x : Int) : Cells (w.alloc (.cells #[.int .i64 d, .int .i64 b, .int .u64 x] 32)) w.heap.size [.int .i64 d, .int .i64 b, .int .u64 x] :=
  fun j hj => by match j, hj with | 0, _ => exact ⟨by go_simp <;> rfl, by go_simp⟩ | 1, _ => exact ⟨by go_simp <;> rfl, by go_simp⟩ | 2, _ => exact ⟨by go_simp <;> rfl, by go_simp⟩
theorem UReg.Chg.up {A W w' : World} {b : Nat} (c : Chg b (.slice none 0 0) (.slice none 0 0) W w') (x : Ext A W) (h : A.heap.size ≤ b) : Ext A w' := c.ext x h (by simp [Value.ownBlock])
theorem handle_flat {w : World} {base : Nat} {row : Value} {L : List (Int × Int)} {m : Nat} (h : OwnI w base row (hnd L)) (hm : L.length = m) :
    ∃ p cap, row = .slice p m cap ∧ ∀ j, j < m → ∀ (h' : j < L.length), ∃ g, p = some ⟨g, 0, none⟩ ∧ w.cell? ⟨g, j, none⟩ = some (.int .i64 (L[j]).1) := by
  obtain ⟨p, cap, hv, hc⟩ := h.reads.flat
  rw [hnd_length, hm] at hv
  refine ⟨p, cap, hv, fun j _ h' => ?_⟩
  obtain ⟨g, hp, hcell⟩ := hc j (by rw [hnd_length]; exact h')
  exact ⟨g, hp, by rw [hcell]; simp [hnd]⟩
theorem has_mem : ∀ (L : List (Int × Int)) (j : Nat) (hj : j < L.length), has (L[j]).1 L = true
  | r :: L, 0, _ => by simp [has]
  | r :: L, j + 1, hj => by
    have := has_mem L j (by simpa using hj)
    rw [has]
    simp only [List.getElem_cons_succ]
    rw [this, Bool.or_true]
/-! ### TableStays -/
set_option maxRecDepth 100000 in
set_option maxHeartbeats 8000000 in
theorem tableStays_walk (v : Value) (w : World) (hv : ActW w v) :
    Calls Try.prog 4 #[v] w fun e w' => e = .returned (.bool true) ∧ Ext w w' := by
  obtain ⟨p, n, cap, A, rfl, hn, hA⟩ := hv
  have HA := Lib.hid hA; clear hA
  unfold maxLen at hn
  by_cases hm : 100 < n
  · have t1 : decide ((100 : Int) < (n : Int)) = true := decide_eq_true (by omega)
    go_enter Try.func4, Try.ntmps4
    go_wp2_with fail
    refine (awake19 _).mono ?_
    rintro e w1 ⟨rfl, hx⟩
    have X1 := Lib.hid hx; clear hx
    go_wp2
    go_ret
    exact ⟨rfl, X1.out⟩
  · have t1 : decide ((100 : Int) < (n : Int)) = false := decide_eq_false (by omega)
    have hn' : n ≤ 100 := by omega
    clear hm hn
    have hmm := @run_makeMap Try.prog
    go_enter Try.func4, Try.ntmps4
    go_wp2_with fail
    refine (awake19 _).mono ?_
    rintro e w1 ⟨rfl, hx⟩
    have X1 := Lib.hid hx; clear hx
    go_wp2_with fail
    refine (tNew _).mono ?_
    rintro e w2 ⟨rfl, hT, hx⟩
    obtain ⟨tb, htb⟩ : ∃ tb, w1.heap.size = tb := ⟨_, rfl⟩
    have hT' := hT.mono X1.out.size
    rw [htb] at hT' ⊢
    have T2 := Lib.hid hT'
    have X2 := Lib.hid (X1.out.trans hx)
    clear hT hx htb hT'
    have z2 := X2.out.size
    --LOOP
    have hHM : HasAt ((w2.alloc (.map #[] 0)).alloc (.map #[] 0)) w2.heap.size 0 (.map []) := (World.ownsMap_made w2 Try.prog IT _).alloc _
    have hGM : GoneAt ((w2.alloc (.map #[] 0)).alloc (.map #[] 0)) (w2.heap.size + 1) 0 (.map []) := by
      have h := World.ownsMap_made (H := Unit) (w2.alloc (.map #[] 0)) Try.prog IT (plainElem Try.prog 3)
      rw [show (w2.alloc (.map #[] 0)).heap.size = w2.heap.size + 1 from by simp] at h
      exact h
    have HM2 := Lib.hid hHM
    have GM2 := Lib.hid hGM
    have T3 := Lib.hid ((T2.out.ext ((Ext.refl w2).alloc (.map #[] 0))).ext ((Ext.refl _).alloc (.map #[] 0)))
    have X3 := Lib.hid ((X2.out.alloc (.map #[] 0)).alloc (.map #[] 0))
    have ZB := Lib.hid z2
    clear hHM hGM T2 X2 z2 X1
    go_wp2_with fail
    obtain ⟨hb, hhb⟩ : ∃ hb, w2.heap.size = hb := ⟨_, rfl⟩
    rw [hhb] at HM2 GM2 ZB
    rw [hhb]
    clear hhb
    go_loopw [33] (fun iv wr => ∃ k : Nat, k ≤ n ∧ iv = .int .i64 k ∧ ∃ (v : Value) (L : List (Int × Int)) (nx : Int) (D G : Dat), WT L nx ∧ Tab RT w.heap.size wr tb v L nx ∧ HasAt wr hb k D ∧ GoneAt wr (hb + 1) k G ∧ Rep D L ∧ GoneOk G nx ∧ Ext w wr)
      (fun iv _ => n - (intOf iv).toNat)
    case atStart => exact ⟨0, by omega, rfl, _, [], 0, _, _, wt_nil, T3.out, HM2.out, GM2.out, .nil, .nil, X3.out⟩
    case round =>
      clear T3 HM2 GM2 X3
      obtain ⟨k, hk, rfl, v, L, nx, D, G, hw, hT, hH, hG, hR, hO, hX⟩ := hrel
      have HW := Lib.hid hw
      have T0 := Lib.hid hT
      have H0 := Lib.hid hH
      have G0 := Lib.hid hG
      have RP := Lib.hid hR
      have GO := Lib.hid hO
      have X0 := Lib.hid hX
      clear hw hT hH hG hR hO hX
      by_cases hlt : k < n
      · have hki : (k : Int) < (n : Int) := by omega
        obtain ⟨a, rfl, ⟨c0, c1, c2⟩, wb, wx⟩ := HA.out k hlt
        obtain ⟨⟨d, b, x⟩, hx⟩ : ∃ t, A k = t := ⟨_, rfl⟩
        rw [hx] at c0 c1 c2 wb wx
        simp only at c0 c1 c2 wb wx
        have WB := Lib.hid wb
        have WX := Lib.hid wx
        have c0 := X0.out.cell c0
        have c1 := X0.out.cell c1
        have c2 := X0.out.cell c2
        clear hx wb wx
        obtain ⟨ad, had⟩ : ∃ ad, a.add (k * 3) = ad := ⟨_, rfl⟩
        rw [had] at c0 c1 c2
        have c1 : wr.cell? ⟨ad.block, ad.off + 1, none⟩ = some (.int .i64 b) := c1
        have c2 : wr.cell? ⟨ad.block, ad.off + 2, none⟩ = some (.int .u64 x) := c2
        have XA := Lib.hid ((Ext.refl wr).alloc (.cells #[.int .i64 d, .int .i64 b, .int .u64 x] 32))
        have CA := Lib.hid (act_cells2 wr d b x)
        have hn0 : v.ownBlock ≠ some wr.heap.size := fun e => by have := T0.out.own.lt _ e; omega
        have hzt := T0.out.lt
        have N0 := Lib.hid hn0
        have T1 := Lib.hid (T0.out.ext XA.out)
        have H1 := Lib.hid (map_ext' H0.out XA.out)
        have G1 := Lib.hid (map_ext' G0.out XA.out)
        have X1 := Lib.hid (X0.out.trans XA.out)
        obtain ⟨R, hR⟩ : ∃ R, doR d b L nx = R := ⟨_, rfl⟩
        obtain ⟨E, hE⟩ : ∃ R, doE d b L nx = R := ⟨_, rfl⟩
        obtain ⟨L', hL'⟩ : ∃ R, doL d b x L nx = R := ⟨_, rfl⟩
        obtain ⟨nx', hnx'⟩ : ∃ R, doN d b L nx = R := ⟨_, rfl⟩
        have HD := tDo T1.out HW.out d b x
        have W' := HW.out.act d b x
        rw [hR, hE, hL', hnx'] at HD
        rw [hL', hnx'] at W'
        have HD := Lib.hid HD
        have HW' := Lib.hid W'
        have HR := Lib.hid hR
        have HE := Lib.hid hE
        have HL := Lib.hid hL'
        have HN := Lib.hid hnx'
        clear hR hE hL' hnx' hn0 W' T0 H0 G0 X0
        go_wp2_with fail
        refine HD.out.mono ?_
        rintro e w3 ⟨v', rfl, hT, hG⟩
        have T3 := Lib.hid hT
        have H3 := Lib.hid (map_chg H1.out (map_tab H1.out T1.out) hG)
        have G3 := Lib.hid (map_chg G1.out (map_tab G1.out T1.out) hG)
        have X3 := Lib.hid (T1.out.up hG X1.out (Nat.le_refl _))
        have C3 := Lib.hid (hG.cells (by omega) N0.out CA.out)
        have d0 := (C3.out 0 (by simp)).1
        have d1 := (C3.out 1 (by simp)).1
        have d2 := (C3.out 2 (by simp)).1
        simp only [List.getElem_cons_zero, List.getElem_cons_succ] at d0 d1 d2
        have z3 := C3.out.lt
        clear hT hG T1 H1 G1 X1 XA CA HD c0 c1 c2 N0 hzt
        by_cases hA0 : d = 0 ∧ E = 0
        · obtain ⟨h0, hE0⟩ := hA0
          subst h0 hE0
          have e2 : addE L nx = 0 := HE.out
          have e1 : addR L nx = R := HR.out
          have e3 : addL L nx x = L' := HL.out
          have e4 : addN L nx = nx' := HN.out
          have e1' : nx = R := by rw [← e1]; unfold addR; rw [if_pos e2]
          have e3' : L ++ [(nx, x)] = L' := by rw [← e3]; unfold addL; rw [if_pos e2]
          have e4' : nx + 1 = nx' := by rw [← e4]; unfold addN; rw [if_pos e2]
          have hwn : (Lit.int .i64 nx).wf = true := wf_i64 HW.out.lo HW.out.hi
          have hno := has_above HW.out (Int.le_refl nx)
          obtain ⟨c, hl1, _⟩ := has_look H3.out hwn
          obtain ⟨g, hl2, hg2⟩ := gone_look G3.out hwn
          rw [GO.out nx (Int.le_refl _)] at hg2
          have hg0 : g = 0 := by
            unfold zI at hg2
            injection hg2 with h
            injection h with _ h
            exact h.symm
          subst hg0
          rw [RP.out.has nx, hno] at hl1
          obtain ⟨w5, hup, hH5, hg5⟩ := has_put H3.out (by omega) hwn WX.out
          have RP5 := Lib.hid (show Rep _ L' from e3' ▸ RP.out.put (World.ownsMap.tidy H3.out intK) x hno)
          have GO5 := Lib.hid (GO.out.mono (show nx ≤ nx' by omega))
          have H5 := Lib.hid hH5
          have T5 := Lib.hid (T3.out.other (map_tab H3.out T3.out) (grown_chg hg5))
          have G5 := Lib.hid ((map_map G3.out (by omega) hg5).mono (Nat.le_succ k))
          have X5 := Lib.hid ((grown_chg hg5).up X3.out ZB.out)
          subst e1'
          clear e1 e2 e3 e4 e3' e4' hno hg2 hH5 hg5 hwn
          go_wp2_with fail
          clear hl1 hl2 hup d0 d1 d2 C3
          go_wp2_with fail
          refine (tHandles T5.out HW'.out.len).mono ?_
          rintro e w6 ⟨row, rfl, ho, hx⟩
          obtain ⟨m, hm⟩ : ∃ m, L'.length = m := ⟨_, rfl⟩
          have hm16 := HW'.out.len
          obtain ⟨rp, rcap, rfl, hcell⟩ := handle_flat ho hm
          rw [hm] at hm16
          have HCell := Lib.hid hcell
          have HMm := Lib.hid hm
          have X6 := Lib.hid hx
          have HLen : ∀ ty, (Builtin.len_ #[47] ty #[.map (some hb)]).run Try.prog w6 = .ok (.int .i64 m) w6 := fun ty => by
            have h := has_len' (map_ext' H5.out hx) ty
            rw [RP5.out.size, hm] at h
            exact h
          have q16 : decide ((16 : Int) < (m : Int)) = false := decide_eq_false (by omega)
          clear hcell ho hx hm HL HN HE HR T3 H3 G3 X3
          go_wp2_with fail
          clear HLen q16
          go_loopw [119] (fun jv wq => ∃ j : Nat, j ≤ m ∧ jv = .int .i64 j ∧ Ext w6 wq)
            (fun jv _ => m - (intOf jv).toNat)
          case atStart => exact ⟨0, by omega, rfl, Ext.refl _⟩
          case round =>
            obtain ⟨j, hj, rfl, hX⟩ := hrel
            have XJ := Lib.hid hX; clear hX
            by_cases hjm : j < m
            · have hji : (j : Int) < (m : Int) := by omega
              have hjL : j < L'.length := by rw [HMm.out]; exact hjm
              obtain ⟨g, rfl, hc0⟩ := HCell.out j hjm hjL
              have hmem := HW'.out.mem _ (List.getElem_mem hjL)
              have hhas : has (L'[j]).1 L' = true := has_mem L' j hjL
              have hprev : ∀ i (hi : i < L'.length), i < j → (L'[i]).1 < (L'[j]).1 := fun i hi hij => List.pairwise_iff_getElem.1 HW'.out.sorted i j hi hjL hij
              obtain ⟨aj, haj⟩ : ∃ aj, (L'[j]).1 = aj := ⟨_, rfl⟩
              rw [haj] at hc0 hmem hhas hprev
              have hc1 := XJ.out.cell hc0
              have zg := World.block_lt_of_cell? _ _ hc1
              simp only at zg
              have hhi := HW'.out.hi
              have hwf : (Lit.int .i64 aj).wf = true := wf_i64 hmem.1 (by omega)
              have u1 : decide (aj < 0) = false := decide_eq_false (by omega)
              have u2 : decide (nx' ≤ aj) = false := decide_eq_false (by omega)
              have HGet := Lib.hid fun (w7 : World) (x : Ext w6 w7) => tGet (T5.out.ext (X6.out.trans x)) HW'.out aj
              rw [hhas] at HGet
              have HNext := Lib.hid fun (w7 : World) (x : Ext w6 w7) => tNext (T5.out.ext (X6.out.trans x))
              obtain ⟨V, hV⟩ : ∃ V, val aj L' = V := ⟨_, rfl⟩
              rw [hV] at HGet
              have HLk : ∀ w7, Ext w6 w7 → (Instr.lookup 47 (.map (some hb)) (.int .i64 aj) true).run Try.prog w7 = .ok (.tuple #[.int .u64 V, .bool true]) w7 := fun w7 x => by
                obtain ⟨c, h1, h2⟩ := has_look (map_ext' H5.out (X6.out.trans x)) hwf
                rw [RP5.out.has aj, hhas] at h1
                rw [RP5.out.val aj hhas, hV] at h2
                injection h2 with h2
                injection h2 with _ h2
                rw [h2]
                exact h1
              have HLk := Lib.hid HLk
              have HPrev := Lib.hid hprev
              clear hmem hhas haj hwf hV hc0 hhi hprev
              by_cases hj0 : j = 0
              · subst hj0
                go_wp2_with fail
                refine (HGet.out _ XJ.out).mono ?_
                rintro e w7 ⟨rfl, hx⟩
                have X7 := Lib.hid (XJ.out.trans hx)
                have hl7 := HLk.out _ X7.out
                clear hx
                go_wp2_with fail
                refine (HNext.out _ X7.out).mono ?_
                rintro e w8 ⟨rfl, hx⟩
                have X8 := Lib.hid (X7.out.trans hx)
                clear hx
                go_wp2_with fail
                clear hl7 hc1 u1 u2
                go_roundw
                case rel => exact ⟨0 + 1, by omega, by simp, X8.out⟩
                case measure => simp [intOf]; omega
              · obtain ⟨i, rfl⟩ : ∃ i, j = i + 1 := ⟨j - 1, by omega⟩
                have hiL : i < L'.length := by omega
                obtain ⟨g', hg', hp0⟩ := HCell.out i (by omega) hiL
                have hlt' := HPrev.out i hiL (by omega)
                obtain ⟨ai, hai⟩ : ∃ ai, (L'[i]).1 = ai := ⟨_, rfl⟩
                rw [hai] at hp0 hlt'
                have hgg : g = g' := by
                  injection hg' with h
                  injection h
                subst hgg
                have hp1 := XJ.out.cell hp0
                have u3 : decide (aj ≤ ai) = false := decide_eq_false (by omega)
                have u4 : decide (0 < (i : Int) + 1) = true := decide_eq_true (by omega)
                have k1 : IntKind.i64.wrap (i : Int) = i := IntWalk.i64_in _ (by omega)
                have him : (i : Int) < (m : Int) := by omega
                clear hai hp0 hg' hlt' hj0
                go_wp2_with fail
                refine (HGet.out _ XJ.out).mono ?_
                rintro e w7 ⟨rfl, hx⟩
                have X7 := Lib.hid (XJ.out.trans hx)
                have hl7 := HLk.out _ X7.out
                have hp7 := hx.cell hp1
                clear hx
                go_wp2_with fail
                refine (HNext.out _ X7.out).mono ?_
                rintro e w8 ⟨rfl, hx⟩
                have X8 := Lib.hid (X7.out.trans hx)
                have hp8 := hx.cell hp7
                have zg8 := World.block_lt_of_cell? _ _ hp8
                simp only at zg8
                clear hx
                go_wp2_with fail
                clear hl7 hc1 hp1 hp7 hp8 u1 u2 u3 u4 k1
                go_roundw
                case rel => exact ⟨i + 1 + 1, by omega, by simp, X8.out⟩
                case measure => simp [intOf]; omega
            · clear HCell
              go_wp2_with fail
              go_roundw
              case rel => exact ⟨k + 1, by omega, by simp, v', L', nx', _, _, HW'.out, T5.out.ext (X6.out.trans XJ.out), map_ext' H5.out (X6.out.trans XJ.out), map_ext' G5.out (X6.out.trans XJ.out), RP5.out, GO5.out, X5.out.trans (X6.out.trans XJ.out)⟩
              case measure => simp [intOf]; omega
        · by_cases hA2 : d = 2 ∧ E = 0
          · obtain ⟨h2, hE0⟩ := hA2
            subst h2 hE0
            have e2 : layE L nx b = 0 := HE.out
            have e1 : 0 = R := HR.out
            have e3 : layL L nx b x = L' := HL.out
            have e4 : layN L nx b = nx' := HN.out
            have e3' : L ++ [(b, x)] = L' := by rw [← e3]; unfold layL; rw [if_pos e2]
            have e4' : b + 1 = nx' := by rw [← e4]; unfold layN; rw [if_pos e2]
            have hnb : nx ≤ b := by
              refine Int.not_lt.1 fun c => ?_
              unfold layE at e2
              by_cases q : L.length = 16
              · rw [if_pos q] at e2; omega
              · rw [if_neg q, if_pos (.inl c)] at e2; omega
            have hwn := WB.out
            have hno := has_above HW.out hnb
            obtain ⟨c, hl1, _⟩ := has_look H3.out hwn
            obtain ⟨g, hl2, hg2⟩ := gone_look G3.out hwn
            rw [GO.out b hnb] at hg2
            have hg0 : g = 0 := by
              unfold zI at hg2
              injection hg2 with h
              injection h with _ h
              exact h.symm
            subst hg0
            rw [RP.out.has b, hno] at hl1
            obtain ⟨w5, hup, hH5, hg5⟩ := has_put H3.out (by omega) hwn WX.out
            have RP5 := Lib.hid (show Rep _ L' from e3' ▸ RP.out.put (World.ownsMap.tidy H3.out intK) x hno)
            have GO5 := Lib.hid (GO.out.mono (show nx ≤ nx' by omega))
            have H5 := Lib.hid hH5
            have T5 := Lib.hid (T3.out.other (map_tab H3.out T3.out) (grown_chg hg5))
            have G5 := Lib.hid ((map_map G3.out (by omega) hg5).mono (Nat.le_succ k))
            have X5 := Lib.hid ((grown_chg hg5).up X3.out ZB.out)
            subst e1
            clear e2 e3 e4 e3' e4' hno hg2 hH5 hg5 hwn hnb hA0
            go_wp2_with fail
            clear hl1 hl2 hup d0 d1 d2 C3
            go_wp2_with fail
            refine (tHandles T5.out HW'.out.len).mono ?_
            rintro e w6 ⟨row, rfl, ho, hx⟩
            obtain ⟨m, hm⟩ : ∃ m, L'.length = m := ⟨_, rfl⟩
            have hm16 := HW'.out.len
            obtain ⟨rp, rcap, rfl, hcell⟩ := handle_flat ho hm
            rw [hm] at hm16
            have HCell := Lib.hid hcell
            have HMm := Lib.hid hm
            have X6 := Lib.hid hx
            have HLen : ∀ ty, (Builtin.len_ #[47] ty #[.map (some hb)]).run Try.prog w6 = .ok (.int .i64 m) w6 := fun ty => by
              have h := has_len' (map_ext' H5.out hx) ty
              rw [RP5.out.size, hm] at h
              exact h
            have q16 : decide ((16 : Int) < (m : Int)) = false := decide_eq_false (by omega)
            clear hcell ho hx hm HL HN HE HR T3 H3 G3 X3
            go_wp2_with fail
            clear HLen q16
            go_loopw [119] (fun jv wq => ∃ j : Nat, j ≤ m ∧ jv = .int .i64 j ∧ Ext w6 wq)
              (fun jv _ => m - (intOf jv).toNat)
            case atStart => exact ⟨0, by omega, rfl, Ext.refl _⟩
            case round =>
              obtain ⟨j, hj, rfl, hX⟩ := hrel
              have XJ := Lib.hid hX; clear hX
              by_cases hjm : j < m
              · have hji : (j : Int) < (m : Int) := by omega
                have hjL : j < L'.length := by rw [HMm.out]; exact hjm
                obtain ⟨g, rfl, hc0⟩ := HCell.out j hjm hjL
                have hmem := HW'.out.mem _ (List.getElem_mem hjL)
                have hhas : has (L'[j]).1 L' = true := has_mem L' j hjL
                have hprev : ∀ i (hi : i < L'.length), i < j → (L'[i]).1 < (L'[j]).1 := fun i hi hij => List.pairwise_iff_getElem.1 HW'.out.sorted i j hi hjL hij
                obtain ⟨aj, haj⟩ : ∃ aj, (L'[j]).1 = aj := ⟨_, rfl⟩
                rw [haj] at hc0 hmem hhas hprev
                have hc1 := XJ.out.cell hc0
                have zg := World.block_lt_of_cell? _ _ hc1
                simp only at zg
                have hhi := HW'.out.hi
                have hwf : (Lit.int .i64 aj).wf = true := wf_i64 hmem.1 (by omega)
                have u1 : decide (aj < 0) = false := decide_eq_false (by omega)
                have u2 : decide (nx' ≤ aj) = false := decide_eq_false (by omega)
                have HGet := Lib.hid fun (w7 : World) (x : Ext w6 w7) => tGet (T5.out.ext (X6.out.trans x)) HW'.out aj
                rw [hhas] at HGet
                have HNext := Lib.hid fun (w7 : World) (x : Ext w6 w7) => tNext (T5.out.ext (X6.out.trans x))
                obtain ⟨V, hV⟩ : ∃ V, val aj L' = V := ⟨_, rfl⟩
                rw [hV] at HGet
                have HLk : ∀ w7, Ext w6 w7 → (Instr.lookup 47 (.map (some hb)) (.int .i64 aj) true).run Try.prog w7 = .ok (.tuple #[.int .u64 V, .bool true]) w7 := fun w7 x => by
                  obtain ⟨c, h1, h2⟩ := has_look (map_ext' H5.out (X6.out.trans x)) hwf
                  rw [RP5.out.has aj, hhas] at h1
                  rw [RP5.out.val aj hhas, hV] at h2
                  injection h2 with h2
                  injection h2 with _ h2
                  rw [h2]
                  exact h1
                have HLk := Lib.hid HLk
                have HPrev := Lib.hid hprev
                clear hmem hhas haj hwf hV hc0 hhi hprev
                by_cases hj0 : j = 0
                · subst hj0
                  go_wp2_with fail
                  refine (HGet.out _ XJ.out).mono ?_
                  rintro e w7 ⟨rfl, hx⟩
                  have X7 := Lib.hid (XJ.out.trans hx)
                  have hl7 := HLk.out _ X7.out
                  clear hx
                  go_wp2_with fail
                  refine (HNext.out _ X7.out).mono ?_
                  rintro e w8 ⟨rfl, hx⟩
                  have X8 := Lib.hid (X7.out.trans hx)
                  clear hx
                  go_wp2_with fail
                  clear hl7 hc1 u1 u2
                  go_roundw
                  case rel => exact ⟨0 + 1, by omega, by simp, X8.out⟩
                  case measure => simp [intOf]; omega
                · obtain ⟨i, rfl⟩ : ∃ i, j = i + 1 := ⟨j - 1, by omega⟩
                  have hiL : i < L'.length := by omega
                  obtain ⟨g', hg', hp0⟩ := HCell.out i (by omega) hiL
                  have hlt' := HPrev.out i hiL (by omega)
                  obtain ⟨ai, hai⟩ : ∃ ai, (L'[i]).1 = ai := ⟨_, rfl⟩
                  rw [hai] at hp0 hlt'
                  have hgg : g = g' := by
                    injection hg' with h
                    injection h
                  subst hgg
                  have hp1 := XJ.out.cell hp0
                  have u3 : decide (aj ≤ ai) = false := decide_eq_false (by omega)
                  have u4 : decide (0 < (i : Int) + 1) = true := decide_eq_true (by omega)
                  have k1 : IntKind.i64.wrap (i : Int) = i := IntWalk.i64_in _ (by omega)
                  have him : (i : Int) < (m : Int) := by omega
                  clear hai hp0 hg' hlt' hj0
                  go_wp2_with fail
                  refine (HGet.out _ XJ.out).mono ?_
                  rintro e w7 ⟨rfl, hx⟩
                  have X7 := Lib.hid (XJ.out.trans hx)
                  have hl7 := HLk.out _ X7.out
                  have hp7 := hx.cell hp1
                  clear hx
                  go_wp2_with fail
                  refine (HNext.out _ X7.out).mono ?_
                  rintro e w8 ⟨rfl, hx⟩
                  have X8 := Lib.hid (X7.out.trans hx)
                  have hp8 := hx.cell hp7
                  have zg8 := World.block_lt_of_cell? _ _ hp8
                  simp only at zg8
                  clear hx
                  go_wp2_with fail
                  clear hl7 hc1 hp1 hp7 hp8 u1 u2 u3 u4 k1
                  go_roundw
                  case rel => exact ⟨i + 1 + 1, by omega, by simp, X8.out⟩
                  case measure => simp [intOf]; omega
              · clear HCell
                go_wp2_with fail
                go_roundw
                case rel => exact ⟨k + 1, by omega, by simp, v', L', nx', _, _, HW'.out, T5.out.ext (X6.out.trans XJ.out), map_ext' H5.out (X6.out.trans XJ.out), map_ext' G5.out (X6.out.trans XJ.out), RP5.out, GO5.out, X5.out.trans (X6.out.trans XJ.out)⟩
                case measure => simp [intOf]; omega
          · by_cases hB : d = 1 ∧ has b L = true
            · obtain ⟨h1, hh⟩ := hB
              subst h1
              have e2 : 0 = E := HE.out
              have e1 : (if has b L then (1 : Int) else 0) = R := HR.out
              have e3 : dropL b L = L' := HL.out
              have e4 : nx = nx' := HN.out
              rw [hh] at e1
              simp only [if_true] at e1
              have hwn := WB.out
              obtain ⟨hj, hjb⟩ := (has_iff b L HW.out.sorted).1 hh
              have hbx : b < nx := by have := (HW.out.mem _ (List.getElem_mem hj)).2; omega
              obtain ⟨c, hl1, _⟩ := has_look H3.out hwn
              rw [RP.out.has b, hh] at hl1
              obtain ⟨w4, hdl, hH4, hg4⟩ := has_del H3.out hwn 0
              have hG4 := map_map G3.out (by omega) hg4
              obtain ⟨w5, hup, hG5, hg5⟩ := gone_put hG4 (by omega) hwn
              have hT4 := T3.out.other (map_tab H3.out T3.out) (grown_chg hg4)
              have hC4 := (grown_chg hg4).cells (map_cells H3.out C3.out).symm (by simp [Value.ownBlock]) C3.out
              have k0 := (hC4 0 (by simp)).1
              have k1 := (hC4 1 (by simp)).1
              have k2 := (hC4 2 (by simp)).1
              simp only [List.getElem_cons_zero, List.getElem_cons_succ] at k0 k1 k2
              have RP5 := Lib.hid (show Rep _ L' from e3 ▸ RP.out.del (World.ownsMap.tidy H3.out intK) HW.out.sorted hh)
              have GO5 := Lib.hid (show GoneOk _ nx' from e4 ▸ GO.out.put hbx (.lit (.int .i64 1)))
              have H5 := Lib.hid ((map_map hH4 (by omega) hg5).mono (Nat.le_succ k))
              have T5 := Lib.hid (hT4.other (map_tab hG4 hT4) (grown_chg hg5))
              have G5 := Lib.hid hG5
              have X5 := Lib.hid ((grown_chg hg5).up ((grown_chg hg4).up X3.out ZB.out) (by have := ZB.out; omega))
              subst e1 e2
              have z4 := hC4.lt
              clear e3 e4 hj hjb hbx hwn hH4 hg4 hG4 hG5 hg5 hT4 hC4 hA0 hA2 hh
              go_wp2_with fail
              clear hl1 hdl hup d0 d1 d2 C3 k0 k1 k2
              go_wp2_with fail
              refine (tHandles T5.out HW'.out.len).mono ?_
              rintro e w6 ⟨row, rfl, ho, hx⟩
              obtain ⟨m, hm⟩ : ∃ m, L'.length = m := ⟨_, rfl⟩
              have hm16 := HW'.out.len
              obtain ⟨rp, rcap, rfl, hcell⟩ := handle_flat ho hm
              rw [hm] at hm16
              have HCell := Lib.hid hcell
              have HMm := Lib.hid hm
              have X6 := Lib.hid hx
              have HLen : ∀ ty, (Builtin.len_ #[47] ty #[.map (some hb)]).run Try.prog w6 = .ok (.int .i64 m) w6 := fun ty => by
                have h := has_len' (map_ext' H5.out hx) ty
                rw [RP5.out.size, hm] at h
                exact h
              have q16 : decide ((16 : Int) < (m : Int)) = false := decide_eq_false (by omega)
              clear hcell ho hx hm HL HN HE HR T3 H3 G3 X3
              go_wp2_with fail
              clear HLen q16
              go_loopw [119] (fun jv wq => ∃ j : Nat, j ≤ m ∧ jv = .int .i64 j ∧ Ext w6 wq)
                (fun jv _ => m - (intOf jv).toNat)
              case atStart => exact ⟨0, by omega, rfl, Ext.refl _⟩
              case round =>
                obtain ⟨j, hj, rfl, hX⟩ := hrel
                have XJ := Lib.hid hX; clear hX
                by_cases hjm : j < m
                · have hji : (j : Int) < (m : Int) := by omega
                  have hjL : j < L'.length := by rw [HMm.out]; exact hjm
                  obtain ⟨g, rfl, hc0⟩ := HCell.out j hjm hjL
                  have hmem := HW'.out.mem _ (List.getElem_mem hjL)
                  have hhas : has (L'[j]).1 L' = true := has_mem L' j hjL
                  have hprev : ∀ i (hi : i < L'.length), i < j → (L'[i]).1 < (L'[j]).1 := fun i hi hij => List.pairwise_iff_getElem.1 HW'.out.sorted i j hi hjL hij
                  obtain ⟨aj, haj⟩ : ∃ aj, (L'[j]).1 = aj := ⟨_, rfl⟩
                  rw [haj] at hc0 hmem hhas hprev
                  have hc1 := XJ.out.cell hc0
                  have zg := World.block_lt_of_cell? _ _ hc1
                  simp only at zg
                  have hhi := HW'.out.hi
                  have hwf : (Lit.int .i64 aj).wf = true := wf_i64 hmem.1 (by omega)
                  have u1 : decide (aj < 0) = false := decide_eq_false (by omega)
                  have u2 : decide (nx' ≤ aj) = false := decide_eq_false (by omega)
                  have HGet := Lib.hid fun (w7 : World) (x : Ext w6 w7) => tGet (T5.out.ext (X6.out.trans x)) HW'.out aj
                  rw [hhas] at HGet
                  have HNext := Lib.hid fun (w7 : World) (x : Ext w6 w7) => tNext (T5.out.ext (X6.out.trans x))
                  obtain ⟨V, hV⟩ : ∃ V, val aj L' = V := ⟨_, rfl⟩
                  rw [hV] at HGet
                  have HLk : ∀ w7, Ext w6 w7 → (Instr.lookup 47 (.map (some hb)) (.int .i64 aj) true).run Try.prog w7 = .ok (.tuple #[.int .u64 V, .bool true]) w7 := fun w7 x => by
                    obtain ⟨c, h1, h2⟩ := has_look (map_ext' H5.out (X6.out.trans x)) hwf
                    rw [RP5.out.has aj, hhas] at h1
                    rw [RP5.out.val aj hhas, hV] at h2
                    injection h2 with h2
                    injection h2 with _ h2
                    rw [h2]
                    exact h1
                  have HLk := Lib.hid HLk
                  have HPrev := Lib.hid hprev
                  clear hmem hhas haj hwf hV hc0 hhi hprev
                  by_cases hj0 : j = 0
                  · subst hj0
                    go_wp2_with fail
                    refine (HGet.out _ XJ.out).mono ?_
                    rintro e w7 ⟨rfl, hx⟩
                    have X7 := Lib.hid (XJ.out.trans hx)
                    have hl7 := HLk.out _ X7.out
                    clear hx
                    go_wp2_with fail
                    refine (HNext.out _ X7.out).mono ?_
                    rintro e w8 ⟨rfl, hx⟩
                    have X8 := Lib.hid (X7.out.trans hx)
                    clear hx
                    go_wp2_with fail
                    clear hl7 hc1 u1 u2
                    go_roundw
                    case rel => exact ⟨0 + 1, by omega, by simp, X8.out⟩
                    case measure => simp [intOf]; omega
                  · obtain ⟨i, rfl⟩ : ∃ i, j = i + 1 := ⟨j - 1, by omega⟩
                    have hiL : i < L'.length := by omega
                    obtain ⟨g', hg', hp0⟩ := HCell.out i (by omega) hiL
                    have hlt' := HPrev.out i hiL (by omega)
                    obtain ⟨ai, hai⟩ : ∃ ai, (L'[i]).1 = ai := ⟨_, rfl⟩
                    rw [hai] at hp0 hlt'
                    have hgg : g = g' := by
                      injection hg' with h
                      injection h
                    subst hgg
                    have hp1 := XJ.out.cell hp0
                    have u3 : decide (aj ≤ ai) = false := decide_eq_false (by omega)
                    have u4 : decide (0 < (i : Int) + 1) = true := decide_eq_true (by omega)
                    have k1 : IntKind.i64.wrap (i : Int) = i := IntWalk.i64_in _ (by omega)
                    have him : (i : Int) < (m : Int) := by omega
                    clear hai hp0 hg' hlt' hj0
                    go_wp2_with fail
                    refine (HGet.out _ XJ.out).mono ?_
                    rintro e w7 ⟨rfl, hx⟩
                    have X7 := Lib.hid (XJ.out.trans hx)
                    have hl7 := HLk.out _ X7.out
                    have hp7 := hx.cell hp1
                    clear hx
                    go_wp2_with fail
                    refine (HNext.out _ X7.out).mono ?_
                    rintro e w8 ⟨rfl, hx⟩
                    have X8 := Lib.hid (X7.out.trans hx)
                    have hp8 := hx.cell hp7
                    have zg8 := World.block_lt_of_cell? _ _ hp8
                    simp only at zg8
                    clear hx
                    go_wp2_with fail
                    clear hl7 hc1 hp1 hp7 hp8 u1 u2 u3 u4 k1
                    go_roundw
                    case rel => exact ⟨i + 1 + 1, by omega, by simp, X8.out⟩
                    case measure => simp [intOf]; omega
                · clear HCell
                  go_wp2_with fail
                  go_roundw
                  case rel => exact ⟨k + 1, by omega, by simp, v', L', nx', _, _, HW'.out, T5.out.ext (X6.out.trans XJ.out), map_ext' H5.out (X6.out.trans XJ.out), map_ext' G5.out (X6.out.trans XJ.out), RP5.out, GO5.out, X5.out.trans (X6.out.trans XJ.out)⟩
                  case measure => simp [intOf]; omega
            · by_cases h0 : d = 0
              · subst h0
                have hE : E ≠ 0 := fun c => hA0 ⟨rfl, c⟩
                have e3 : L = L' := by
                  have h : addL L nx x = L' := HL.out
                  have h2 : addE L nx = E := HE.out
                  unfold addL at h
                  rwa [h2, if_neg hE] at h
                have e4 : nx ≤ nx' := by
                  have h : addN L nx = nx' := HN.out
                  have h2 : addE L nx = E := HE.out
                  unfold addN at h
                  rw [h2, if_neg hE] at h
                  omega
                have v1 : decide (E = 0) = false := decide_eq_false hE
                have v2 : (E == 0) = false := v1
                clear hA0 hA2 hB hE
                have RP5 := Lib.hid (show Rep D L' from e3 ▸ RP.out)
                have GO5 := Lib.hid (GO.out.mono e4)
                obtain ⟨w5, hw5⟩ : ∃ w5, w3 = w5 := ⟨_, rfl⟩
                have H5 := Lib.hid (World.ownsMap.mono H3.out (Nat.le_succ k))
                have G5 := Lib.hid (World.ownsMap.mono G3.out (Nat.le_succ k))
                have T5 := Lib.hid T3.out
                have X5 := Lib.hid X3.out
                clear hw5 w5 e3 e4
                go_wp2_with fail
                clear d0 d1 d2 C3
                go_wp2_with fail
                refine (tHandles T5.out HW'.out.len).mono ?_
                rintro e w6 ⟨row, rfl, ho, hx⟩
                obtain ⟨m, hm⟩ : ∃ m, L'.length = m := ⟨_, rfl⟩
                have hm16 := HW'.out.len
                obtain ⟨rp, rcap, rfl, hcell⟩ := handle_flat ho hm
                rw [hm] at hm16
                have HCell := Lib.hid hcell
                have HMm := Lib.hid hm
                have X6 := Lib.hid hx
                have HLen : ∀ ty, (Builtin.len_ #[47] ty #[.map (some hb)]).run Try.prog w6 = .ok (.int .i64 m) w6 := fun ty => by
                  have h := has_len' (map_ext' H5.out hx) ty
                  rw [RP5.out.size, hm] at h
                  exact h
                have q16 : decide ((16 : Int) < (m : Int)) = false := decide_eq_false (by omega)
                clear hcell ho hx hm HL HN HE HR T3 H3 G3 X3
                go_wp2_with fail
                clear HLen q16
                go_loopw [119] (fun jv wq => ∃ j : Nat, j ≤ m ∧ jv = .int .i64 j ∧ Ext w6 wq)
                  (fun jv _ => m - (intOf jv).toNat)
                case atStart => exact ⟨0, by omega, rfl, Ext.refl _⟩
                case round =>
                  obtain ⟨j, hj, rfl, hX⟩ := hrel
                  have XJ := Lib.hid hX; clear hX
                  by_cases hjm : j < m
                  · have hji : (j : Int) < (m : Int) := by omega
                    have hjL : j < L'.length := by rw [HMm.out]; exact hjm
                    obtain ⟨g, rfl, hc0⟩ := HCell.out j hjm hjL
                    have hmem := HW'.out.mem _ (List.getElem_mem hjL)
                    have hhas : has (L'[j]).1 L' = true := has_mem L' j hjL
                    have hprev : ∀ i (hi : i < L'.length), i < j → (L'[i]).1 < (L'[j]).1 := fun i hi hij => List.pairwise_iff_getElem.1 HW'.out.sorted i j hi hjL hij
                    obtain ⟨aj, haj⟩ : ∃ aj, (L'[j]).1 = aj := ⟨_, rfl⟩
                    rw [haj] at hc0 hmem hhas hprev
                    have hc1 := XJ.out.cell hc0
                    have zg := World.block_lt_of_cell? _ _ hc1
                    simp only at zg
                    have hhi := HW'.out.hi
                    have hwf : (Lit.int .i64 aj).wf = true := wf_i64 hmem.1 (by omega)
                    have u1 : decide (aj < 0) = false := decide_eq_false (by omega)
                    have u2 : decide (nx' ≤ aj) = false := decide_eq_false (by omega)
                    have HGet := Lib.hid fun (w7 : World) (x : Ext w6 w7) => tGet (T5.out.ext (X6.out.trans x)) HW'.out aj
                    rw [hhas] at HGet
                    have HNext := Lib.hid fun (w7 : World) (x : Ext w6 w7) => tNext (T5.out.ext (X6.out.trans x))
                    obtain ⟨V, hV⟩ : ∃ V, val aj L' = V := ⟨_, rfl⟩
                    rw [hV] at HGet
                    have HLk : ∀ w7, Ext w6 w7 → (Instr.lookup 47 (.map (some hb)) (.int .i64 aj) true).run Try.prog w7 = .ok (.tuple #[.int .u64 V, .bool true]) w7 := fun w7 x => by
                      obtain ⟨c, h1, h2⟩ := has_look (map_ext' H5.out (X6.out.trans x)) hwf
                      rw [RP5.out.has aj, hhas] at h1
                      rw [RP5.out.val aj hhas, hV] at h2
                      injection h2 with h2
                      injection h2 with _ h2
                      rw [h2]
                      exact h1
                    have HLk := Lib.hid HLk
                    have HPrev := Lib.hid hprev
                    clear hmem hhas haj hwf hV hc0 hhi hprev
                    by_cases hj0 : j = 0
                    · subst hj0
                      go_wp2_with fail
                      refine (HGet.out _ XJ.out).mono ?_
                      rintro e w7 ⟨rfl, hx⟩
                      have X7 := Lib.hid (XJ.out.trans hx)
                      have hl7 := HLk.out _ X7.out
                      clear hx
                      go_wp2_with fail
                      refine (HNext.out _ X7.out).mono ?_
                      rintro e w8 ⟨rfl, hx⟩
                      have X8 := Lib.hid (X7.out.trans hx)
                      clear hx
                      go_wp2_with fail
                      clear hl7 hc1 u1 u2
                      go_roundw
                      case rel => exact ⟨0 + 1, by omega, by simp, X8.out⟩
                      case measure => simp [intOf]; omega
                    · obtain ⟨i, rfl⟩ : ∃ i, j = i + 1 := ⟨j - 1, by omega⟩
                      have hiL : i < L'.length := by omega
                      obtain ⟨g', hg', hp0⟩ := HCell.out i (by omega) hiL
                      have hlt' := HPrev.out i hiL (by omega)
                      obtain ⟨ai, hai⟩ : ∃ ai, (L'[i]).1 = ai := ⟨_, rfl⟩
                      rw [hai] at hp0 hlt'
                      have hgg : g = g' := by
                        injection hg' with h
                        injection h
                      subst hgg
                      have hp1 := XJ.out.cell hp0
                      have u3 : decide (aj ≤ ai) = false := decide_eq_false (by omega)
                      have u4 : decide (0 < (i : Int) + 1) = true := decide_eq_true (by omega)
                      have k1 : IntKind.i64.wrap (i : Int) = i := IntWalk.i64_in _ (by omega)
                      have him : (i : Int) < (m : Int) := by omega
                      clear hai hp0 hg' hlt' hj0
                      go_wp2_with fail
                      refine (HGet.out _ XJ.out).mono ?_
                      rintro e w7 ⟨rfl, hx⟩
                      have X7 := Lib.hid (XJ.out.trans hx)
                      have hl7 := HLk.out _ X7.out
                      have hp7 := hx.cell hp1
                      clear hx
                      go_wp2_with fail
                      refine (HNext.out _ X7.out).mono ?_
                      rintro e w8 ⟨rfl, hx⟩
                      have X8 := Lib.hid (X7.out.trans hx)
                      have hp8 := hx.cell hp7
                      have zg8 := World.block_lt_of_cell? _ _ hp8
                      simp only at zg8
                      clear hx
                      go_wp2_with fail
                      clear hl7 hc1 hp1 hp7 hp8 u1 u2 u3 u4 k1
                      go_roundw
                      case rel => exact ⟨i + 1 + 1, by omega, by simp, X8.out⟩
                      case measure => simp [intOf]; omega
                  · clear HCell
                    go_wp2_with fail
                    go_roundw
                    case rel => exact ⟨k + 1, by omega, by simp, v', L', nx', _, _, HW'.out, T5.out.ext (X6.out.trans XJ.out), map_ext' H5.out (X6.out.trans XJ.out), map_ext' G5.out (X6.out.trans XJ.out), RP5.out, GO5.out, X5.out.trans (X6.out.trans XJ.out)⟩
                    case measure => simp [intOf]; omega
              · by_cases h2 : d = 2
                · subst h2
                  have hE : E ≠ 0 := fun c => hA2 ⟨rfl, c⟩
                  have e3 : L = L' := by
                    have h : layL L nx b x = L' := HL.out
                    have h2 : layE L nx b = E := HE.out
                    unfold layL at h
                    rwa [h2, if_neg hE] at h
                  have e4 : nx ≤ nx' := by
                    have h : layN L nx b = nx' := HN.out
                    have h2 : layE L nx b = E := HE.out
                    unfold layN at h
                    rw [h2, if_neg hE] at h
                    omega
                  have v1 : decide (E = 0) = false := decide_eq_false hE
                  have v2 : (E == 0) = false := v1
                  clear hA0 hA2 hB hE h0
                  have RP5 := Lib.hid (show Rep D L' from e3 ▸ RP.out)
                  have GO5 := Lib.hid (GO.out.mono e4)
                  obtain ⟨w5, hw5⟩ : ∃ w5, w3 = w5 := ⟨_, rfl⟩
                  have H5 := Lib.hid (World.ownsMap.mono H3.out (Nat.le_succ k))
                  have G5 := Lib.hid (World.ownsMap.mono G3.out (Nat.le_succ k))
                  have T5 := Lib.hid T3.out
                  have X5 := Lib.hid X3.out
                  clear hw5 w5 e3 e4
                  go_wp2_with fail
                  clear d0 d1 d2 C3
                  go_wp2_with fail
                  refine (tHandles T5.out HW'.out.len).mono ?_
                  rintro e w6 ⟨row, rfl, ho, hx⟩
                  obtain ⟨m, hm⟩ : ∃ m, L'.length = m := ⟨_, rfl⟩
                  have hm16 := HW'.out.len
                  obtain ⟨rp, rcap, rfl, hcell⟩ := handle_flat ho hm
                  rw [hm] at hm16
                  have HCell := Lib.hid hcell
                  have HMm := Lib.hid hm
                  have X6 := Lib.hid hx
                  have HLen : ∀ ty, (Builtin.len_ #[47] ty #[.map (some hb)]).run Try.prog w6 = .ok (.int .i64 m) w6 := fun ty => by
                    have h := has_len' (map_ext' H5.out hx) ty
                    rw [RP5.out.size, hm] at h
                    exact h
                  have q16 : decide ((16 : Int) < (m : Int)) = false := decide_eq_false (by omega)
                  clear hcell ho hx hm HL HN HE HR T3 H3 G3 X3
                  go_wp2_with fail
                  clear HLen q16
                  go_loopw [119] (fun jv wq => ∃ j : Nat, j ≤ m ∧ jv = .int .i64 j ∧ Ext w6 wq)
                    (fun jv _ => m - (intOf jv).toNat)
                  case atStart => exact ⟨0, by omega, rfl, Ext.refl _⟩
                  case round =>
                    obtain ⟨j, hj, rfl, hX⟩ := hrel
                    have XJ := Lib.hid hX; clear hX
                    by_cases hjm : j < m
                    · have hji : (j : Int) < (m : Int) := by omega
                      have hjL : j < L'.length := by rw [HMm.out]; exact hjm
                      obtain ⟨g, rfl, hc0⟩ := HCell.out j hjm hjL
                      have hmem := HW'.out.mem _ (List.getElem_mem hjL)
                      have hhas : has (L'[j]).1 L' = true := has_mem L' j hjL
                      have hprev : ∀ i (hi : i < L'.length), i < j → (L'[i]).1 < (L'[j]).1 := fun i hi hij => List.pairwise_iff_getElem.1 HW'.out.sorted i j hi hjL hij
                      obtain ⟨aj, haj⟩ : ∃ aj, (L'[j]).1 = aj := ⟨_, rfl⟩
                      rw [haj] at hc0 hmem hhas hprev
                      have hc1 := XJ.out.cell hc0
                      have zg := World.block_lt_of_cell? _ _ hc1
                      simp only at zg
                      have hhi := HW'.out.hi
                      have hwf : (Lit.int .i64 aj).wf = true := wf_i64 hmem.1 (by omega)
                      have u1 : decide (aj < 0) = false := decide_eq_false (by omega)
                      have u2 : decide (nx' ≤ aj) = false := decide_eq_false (by omega)
                      have HGet := Lib.hid fun (w7 : World) (x : Ext w6 w7) => tGet (T5.out.ext (X6.out.trans x)) HW'.out aj
                      rw [hhas] at HGet
                      have HNext := Lib.hid fun (w7 : World) (x : Ext w6 w7) => tNext (T5.out.ext (X6.out.trans x))
                      obtain ⟨V, hV⟩ : ∃ V, val aj L' = V := ⟨_, rfl⟩
                      rw [hV] at HGet
                      have HLk : ∀ w7, Ext w6 w7 → (Instr.lookup 47 (.map (some hb)) (.int .i64 aj) true).run Try.prog w7 = .ok (.tuple #[.int .u64 V, .bool true]) w7 := fun w7 x => by
                        obtain ⟨c, h1, h2⟩ := has_look (map_ext' H5.out (X6.out.trans x)) hwf
                        rw [RP5.out.has aj, hhas] at h1
                        rw [RP5.out.val aj hhas, hV] at h2
                        injection h2 with h2
                        injection h2 with _ h2
                        rw [h2]
                        exact h1
                      have HLk := Lib.hid HLk
                      have HPrev := Lib.hid hprev
                      clear hmem hhas haj hwf hV hc0 hhi hprev
                      by_cases hj0 : j = 0
                      · subst hj0
                        go_wp2_with fail
                        refine (HGet.out _ XJ.out).mono ?_
                        rintro e w7 ⟨rfl, hx⟩
                        have X7 := Lib.hid (XJ.out.trans hx)
                        have hl7 := HLk.out _ X7.out
                        clear hx
                        go_wp2_with fail
                        refine (HNext.out _ X7.out).mono ?_
                        rintro e w8 ⟨rfl, hx⟩
                        have X8 := Lib.hid (X7.out.trans hx)
                        clear hx
                        go_wp2_with fail
                        clear hl7 hc1 u1 u2
                        go_roundw
                        case rel => exact ⟨0 + 1, by omega, by simp, X8.out⟩
                        case measure => simp [intOf]; omega
                      · obtain ⟨i, rfl⟩ : ∃ i, j = i + 1 := ⟨j - 1, by omega⟩
                        have hiL : i < L'.length := by omega
                        obtain ⟨g', hg', hp0⟩ := HCell.out i (by omega) hiL
                        have hlt' := HPrev.out i hiL (by omega)
                        obtain ⟨ai, hai⟩ : ∃ ai, (L'[i]).1 = ai := ⟨_, rfl⟩
                        rw [hai] at hp0 hlt'
                        have hgg : g = g' := by
                          injection hg' with h
                          injection h
                        subst hgg
                        have hp1 := XJ.out.cell hp0
                        have u3 : decide (aj ≤ ai) = false := decide_eq_false (by omega)
                        have u4 : decide (0 < (i : Int) + 1) = true := decide_eq_true (by omega)
                        have k1 : IntKind.i64.wrap (i : Int) = i := IntWalk.i64_in _ (by omega)
                        have him : (i : Int) < (m : Int) := by omega
                        clear hai hp0 hg' hlt' hj0
                        go_wp2_with fail
                        refine (HGet.out _ XJ.out).mono ?_
                        rintro e w7 ⟨rfl, hx⟩
                        have X7 := Lib.hid (XJ.out.trans hx)
                        have hl7 := HLk.out _ X7.out
                        have hp7 := hx.cell hp1
                        clear hx
                        go_wp2_with fail
                        refine (HNext.out _ X7.out).mono ?_
                        rintro e w8 ⟨rfl, hx⟩
                        have X8 := Lib.hid (X7.out.trans hx)
                        have hp8 := hx.cell hp7
                        have zg8 := World.block_lt_of_cell? _ _ hp8
                        simp only at zg8
                        clear hx
                        go_wp2_with fail
                        clear hl7 hc1 hp1 hp7 hp8 u1 u2 u3 u4 k1
                        go_roundw
                        case rel => exact ⟨i + 1 + 1, by omega, by simp, X8.out⟩
                        case measure => simp [intOf]; omega
                    · clear HCell
                      go_wp2_with fail
                      go_roundw
                      case rel => exact ⟨k + 1, by omega, by simp, v', L', nx', _, _, HW'.out, T5.out.ext (X6.out.trans XJ.out), map_ext' H5.out (X6.out.trans XJ.out), map_ext' G5.out (X6.out.trans XJ.out), RP5.out, GO5.out, X5.out.trans (X6.out.trans XJ.out)⟩
                      case measure => simp [intOf]; omega
                · by_cases h1 : d = 1
                  · subst h1
                    have hh : has b L = false := by
                      cases q : has b L
                      · rfl
                      · exact absurd ⟨rfl, q⟩ hB
                    have e3 : L = L' := by
                      have h : dropL b L = L' := HL.out
                      rwa [drop_none b L hh] at h
                    have e4 : nx ≤ nx' := Int.le_of_eq HN.out
                    have e1 : (if has b L then (1 : Int) else 0) = R := HR.out
                    rw [hh] at e1
                    simp only [Bool.false_eq_true, if_false] at e1
                    subst e1
                    clear hA0 hA2 hB hh h0 h2
                    have RP5 := Lib.hid (show Rep D L' from e3 ▸ RP.out)
                    have GO5 := Lib.hid (GO.out.mono e4)
                    obtain ⟨w5, hw5⟩ : ∃ w5, w3 = w5 := ⟨_, rfl⟩
                    have H5 := Lib.hid (World.ownsMap.mono H3.out (Nat.le_succ k))
                    have G5 := Lib.hid (World.ownsMap.mono G3.out (Nat.le_succ k))
                    have T5 := Lib.hid T3.out
                    have X5 := Lib.hid X3.out
                    clear hw5 w5 e3 e4
                    go_wp2_with fail
                    clear d0 d1 d2 C3
                    go_wp2_with fail
                    refine (tHandles T5.out HW'.out.len).mono ?_
                    rintro e w6 ⟨row, rfl, ho, hx⟩
                    obtain ⟨m, hm⟩ : ∃ m, L'.length = m := ⟨_, rfl⟩
                    have hm16 := HW'.out.len
                    obtain ⟨rp, rcap, rfl, hcell⟩ := handle_flat ho hm
                    rw [hm] at hm16
                    have HCell := Lib.hid hcell
                    have HMm := Lib.hid hm
                    have X6 := Lib.hid hx
                    have HLen : ∀ ty, (Builtin.len_ #[47] ty #[.map (some hb)]).run Try.prog w6 = .ok (.int .i64 m) w6 := fun ty => by
                      have h := has_len' (map_ext' H5.out hx) ty
                      rw [RP5.out.size, hm] at h
                      exact h
                    have q16 : decide ((16 : Int) < (m : Int)) = false := decide_eq_false (by omega)
                    clear hcell ho hx hm HL HN HE HR T3 H3 G3 X3
                    go_wp2_with fail
                    clear HLen q16
                    go_loopw [119] (fun jv wq => ∃ j : Nat, j ≤ m ∧ jv = .int .i64 j ∧ Ext w6 wq)
                      (fun jv _ => m - (intOf jv).toNat)
                    case atStart => exact ⟨0, by omega, rfl, Ext.refl _⟩
                    case round =>
                      obtain ⟨j, hj, rfl, hX⟩ := hrel
                      have XJ := Lib.hid hX; clear hX
                      by_cases hjm : j < m
                      · have hji : (j : Int) < (m : Int) := by omega
                        have hjL : j < L'.length := by rw [HMm.out]; exact hjm
                        obtain ⟨g, rfl, hc0⟩ := HCell.out j hjm hjL
                        have hmem := HW'.out.mem _ (List.getElem_mem hjL)
                        have hhas : has (L'[j]).1 L' = true := has_mem L' j hjL
                        have hprev : ∀ i (hi : i < L'.length), i < j → (L'[i]).1 < (L'[j]).1 := fun i hi hij => List.pairwise_iff_getElem.1 HW'.out.sorted i j hi hjL hij
                        obtain ⟨aj, haj⟩ : ∃ aj, (L'[j]).1 = aj := ⟨_, rfl⟩
                        rw [haj] at hc0 hmem hhas hprev
                        have hc1 := XJ.out.cell hc0
                        have zg := World.block_lt_of_cell? _ _ hc1
                        simp only at zg
                        have hhi := HW'.out.hi
                        have hwf : (Lit.int .i64 aj).wf = true := wf_i64 hmem.1 (by omega)
                        have u1 : decide (aj < 0) = false := decide_eq_false (by omega)
                        have u2 : decide (nx' ≤ aj) = false := decide_eq_false (by omega)
                        have HGet := Lib.hid fun (w7 : World) (x : Ext w6 w7) => tGet (T5.out.ext (X6.out.trans x)) HW'.out aj
                        rw [hhas] at HGet
                        have HNext := Lib.hid fun (w7 : World) (x : Ext w6 w7) => tNext (T5.out.ext (X6.out.trans x))
                        obtain ⟨V, hV⟩ : ∃ V, val aj L' = V := ⟨_, rfl⟩
                        rw [hV] at HGet
                        have HLk : ∀ w7, Ext w6 w7 → (Instr.lookup 47 (.map (some hb)) (.int .i64 aj) true).run Try.prog w7 = .ok (.tuple #[.int .u64 V, .bool true]) w7 := fun w7 x => by
                          obtain ⟨c, h1, h2⟩ := has_look (map_ext' H5.out (X6.out.trans x)) hwf
                          rw [RP5.out.has aj, hhas] at h1
                          rw [RP5.out.val aj hhas, hV] at h2
                          injection h2 with h2
                          injection h2 with _ h2
                          rw [h2]
                          exact h1
                        have HLk := Lib.hid HLk
                        have HPrev := Lib.hid hprev
                        clear hmem hhas haj hwf hV hc0 hhi hprev
                        by_cases hj0 : j = 0
                        · subst hj0
                          go_wp2_with fail
                          refine (HGet.out _ XJ.out).mono ?_
                          rintro e w7 ⟨rfl, hx⟩
                          have X7 := Lib.hid (XJ.out.trans hx)
                          have hl7 := HLk.out _ X7.out
                          clear hx
                          go_wp2_with fail
                          refine (HNext.out _ X7.out).mono ?_
                          rintro e w8 ⟨rfl, hx⟩
                          have X8 := Lib.hid (X7.out.trans hx)
                          clear hx
                          go_wp2_with fail
                          clear hl7 hc1 u1 u2
                          go_roundw
                          case rel => exact ⟨0 + 1, by omega, by simp, X8.out⟩
                          case measure => simp [intOf]; omega
                        · obtain ⟨i, rfl⟩ : ∃ i, j = i + 1 := ⟨j - 1, by omega⟩
                          have hiL : i < L'.length := by omega
                          obtain ⟨g', hg', hp0⟩ := HCell.out i (by omega) hiL
                          have hlt' := HPrev.out i hiL (by omega)
                          obtain ⟨ai, hai⟩ : ∃ ai, (L'[i]).1 = ai := ⟨_, rfl⟩
                          rw [hai] at hp0 hlt'
                          have hgg : g = g' := by
                            injection hg' with h
                            injection h
                          subst hgg
                          have hp1 := XJ.out.cell hp0
                          have u3 : decide (aj ≤ ai) = false := decide_eq_false (by omega)
                          have u4 : decide (0 < (i : Int) + 1) = true := decide_eq_true (by omega)
                          have k1 : IntKind.i64.wrap (i : Int) = i := IntWalk.i64_in _ (by omega)
                          have him : (i : Int) < (m : Int) := by omega
                          clear hai hp0 hg' hlt' hj0
                          go_wp2_with fail
                          refine (HGet.out _ XJ.out).mono ?_
                          rintro e w7 ⟨rfl, hx⟩
                          have X7 := Lib.hid (XJ.out.trans hx)
                          have hl7 := HLk.out _ X7.out
                          have hp7 := hx.cell hp1
                          clear hx
                          go_wp2_with fail
                          refine (HNext.out _ X7.out).mono ?_
                          rintro e w8 ⟨rfl, hx⟩
                          have X8 := Lib.hid (X7.out.trans hx)
                          have hp8 := hx.cell hp7
                          have zg8 := World.block_lt_of_cell? _ _ hp8
                          simp only at zg8
                          clear hx
                          go_wp2_with fail
                          clear hl7 hc1 hp1 hp7 hp8 u1 u2 u3 u4 k1
                          go_roundw
                          case rel => exact ⟨i + 1 + 1, by omega, by simp, X8.out⟩
                          case measure => simp [intOf]; omega
                      · clear HCell
                        go_wp2_with fail
                        go_roundw
                        case rel => exact ⟨k + 1, by omega, by simp, v', L', nx', _, _, HW'.out, T5.out.ext (X6.out.trans XJ.out), map_ext' H5.out (X6.out.trans XJ.out), map_ext' G5.out (X6.out.trans XJ.out), RP5.out, GO5.out, X5.out.trans (X6.out.trans XJ.out)⟩
                        case measure => simp [intOf]; omega
                  · have e3 : L = L' := by rw [← HL.out]; unfold doL; rw [if_neg h0, if_neg h1, if_neg h2]
                    have e4 : nx ≤ nx' := by
                      rw [← HN.out]; unfold doN; rw [if_neg h0, if_neg h2]
                      split
                      · unfold goN goE
                        split
                        · split at *
                          · omega
                          · omega
                        · omega
                      · omega
                    have v0 : decide (d = 0) = false := decide_eq_false h0
                    have v1 : decide (d = 1) = false := decide_eq_false h1
                    have v2 : decide (d = 2) = false := decide_eq_false h2
                    have s0 : (d == 0) = false := v0
                    have s1 : (d == 1) = false := v1
                    have s2 : (d == 2) = false := v2
                    clear hA0 hA2 hB h0 h1 h2
                    have RP5 := Lib.hid (show Rep D L' from e3 ▸ RP.out)
                    have GO5 := Lib.hid (GO.out.mono e4)
                    obtain ⟨w5, hw5⟩ : ∃ w5, w3 = w5 := ⟨_, rfl⟩
                    have H5 := Lib.hid (World.ownsMap.mono H3.out (Nat.le_succ k))
                    have G5 := Lib.hid (World.ownsMap.mono G3.out (Nat.le_succ k))
                    have T5 := Lib.hid T3.out
                    have X5 := Lib.hid X3.out
                    clear hw5 w5 e3 e4
                    go_wp2_with fail
                    clear d0 d1 d2 C3
                    go_wp2_with fail
                    refine (tHandles T5.out HW'.out.len).mono ?_
                    rintro e w6 ⟨row, rfl, ho, hx⟩
                    obtain ⟨m, hm⟩ : ∃ m, L'.length = m := ⟨_, rfl⟩
                    have hm16 := HW'.out.len
                    obtain ⟨rp, rcap, rfl, hcell⟩ := handle_flat ho hm
                    rw [hm] at hm16
                    have HCell := Lib.hid hcell
                    have HMm := Lib.hid hm
                    have X6 := Lib.hid hx
                    have HLen : ∀ ty, (Builtin.len_ #[47] ty #[.map (some hb)]).run Try.prog w6 = .ok (.int .i64 m) w6 := fun ty => by
                      have h := has_len' (map_ext' H5.out hx) ty
                      rw [RP5.out.size, hm] at h
                      exact h
                    have q16 : decide ((16 : Int) < (m : Int)) = false := decide_eq_false (by omega)
                    clear hcell ho hx hm HL HN HE HR T3 H3 G3 X3
                    go_wp2_with fail
                    clear HLen q16
                    go_loopw [119] (fun jv wq => ∃ j : Nat, j ≤ m ∧ jv = .int .i64 j ∧ Ext w6 wq)
                      (fun jv _ => m - (intOf jv).toNat)
                    case atStart => exact ⟨0, by omega, rfl, Ext.refl _⟩
                    case round =>
                      obtain ⟨j, hj, rfl, hX⟩ := hrel
                      have XJ := Lib.hid hX; clear hX
                      by_cases hjm : j < m
                      · have hji : (j : Int) < (m : Int) := by omega
                        have hjL : j < L'.length := by rw [HMm.out]; exact hjm
                        obtain ⟨g, rfl, hc0⟩ := HCell.out j hjm hjL
                        have hmem := HW'.out.mem _ (List.getElem_mem hjL)
                        have hhas : has (L'[j]).1 L' = true := has_mem L' j hjL
                        have hprev : ∀ i (hi : i < L'.length), i < j → (L'[i]).1 < (L'[j]).1 := fun i hi hij => List.pairwise_iff_getElem.1 HW'.out.sorted i j hi hjL hij
                        obtain ⟨aj, haj⟩ : ∃ aj, (L'[j]).1 = aj := ⟨_, rfl⟩
                        rw [haj] at hc0 hmem hhas hprev
                        have hc1 := XJ.out.cell hc0
                        have zg := World.block_lt_of_cell? _ _ hc1
                        simp only at zg
                        have hhi := HW'.out.hi
                        have hwf : (Lit.int .i64 aj).wf = true := wf_i64 hmem.1 (by omega)
                        have u1 : decide (aj < 0) = false := decide_eq_false (by omega)
                        have u2 : decide (nx' ≤ aj) = false := decide_eq_false (by omega)
                        have HGet := Lib.hid fun (w7 : World) (x : Ext w6 w7) => tGet (T5.out.ext (X6.out.trans x)) HW'.out aj
                        rw [hhas] at HGet
                        have HNext := Lib.hid fun (w7 : World) (x : Ext w6 w7) => tNext (T5.out.ext (X6.out.trans x))
                        obtain ⟨V, hV⟩ : ∃ V, val aj L' = V := ⟨_, rfl⟩
                        rw [hV] at HGet
                        have HLk : ∀ w7, Ext w6 w7 → (Instr.lookup 47 (.map (some hb)) (.int .i64 aj) true).run Try.prog w7 = .ok (.tuple #[.int .u64 V, .bool true]) w7 := fun w7 x => by
                          obtain ⟨c, h1, h2⟩ := has_look (map_ext' H5.out (X6.out.trans x)) hwf
                          rw [RP5.out.has aj, hhas] at h1
                          rw [RP5.out.val aj hhas, hV] at h2
                          injection h2 with h2
                          injection h2 with _ h2
                          rw [h2]
                          exact h1
                        have HLk := Lib.hid HLk
                        have HPrev := Lib.hid hprev
                        clear hmem hhas haj hwf hV hc0 hhi hprev
                        by_cases hj0 : j = 0
                        · subst hj0
                          go_wp2_with fail
                          refine (HGet.out _ XJ.out).mono ?_
                          rintro e w7 ⟨rfl, hx⟩
                          have X7 := Lib.hid (XJ.out.trans hx)
                          have hl7 := HLk.out _ X7.out
                          clear hx
                          go_wp2_with fail
                          refine (HNext.out _ X7.out).mono ?_
                          rintro e w8 ⟨rfl, hx⟩
                          have X8 := Lib.hid (X7.out.trans hx)
                          clear hx
                          go_wp2_with fail
                          clear hl7 hc1 u1 u2
                          go_roundw
                          case rel => exact ⟨0 + 1, by omega, by simp, X8.out⟩
                          case measure => simp [intOf]; omega
                        · obtain ⟨i, rfl⟩ : ∃ i, j = i + 1 := ⟨j - 1, by omega⟩
                          have hiL : i < L'.length := by omega
                          obtain ⟨g', hg', hp0⟩ := HCell.out i (by omega) hiL
                          have hlt' := HPrev.out i hiL (by omega)
                          obtain ⟨ai, hai⟩ : ∃ ai, (L'[i]).1 = ai := ⟨_, rfl⟩
                          rw [hai] at hp0 hlt'
                          have hgg : g = g' := by
                            injection hg' with h
                            injection h
                          subst hgg
                          have hp1 := XJ.out.cell hp0
                          have u3 : decide (aj ≤ ai) = false := decide_eq_false (by omega)
                          have u4 : decide (0 < (i : Int) + 1) = true := decide_eq_true (by omega)
                          have k1 : IntKind.i64.wrap (i : Int) = i := IntWalk.i64_in _ (by omega)
                          have him : (i : Int) < (m : Int) := by omega
                          clear hai hp0 hg' hlt' hj0
                          go_wp2_with fail
                          refine (HGet.out _ XJ.out).mono ?_
                          rintro e w7 ⟨rfl, hx⟩
                          have X7 := Lib.hid (XJ.out.trans hx)
                          have hl7 := HLk.out _ X7.out
                          have hp7 := hx.cell hp1
                          clear hx
                          go_wp2_with fail
                          refine (HNext.out _ X7.out).mono ?_
                          rintro e w8 ⟨rfl, hx⟩
                          have X8 := Lib.hid (X7.out.trans hx)
                          have hp8 := hx.cell hp7
                          have zg8 := World.block_lt_of_cell? _ _ hp8
                          simp only at zg8
                          clear hx
                          go_wp2_with fail
                          clear hl7 hc1 hp1 hp7 hp8 u1 u2 u3 u4 k1
                          go_roundw
                          case rel => exact ⟨i + 1 + 1, by omega, by simp, X8.out⟩
                          case measure => simp [intOf]; omega
                      · clear HCell
                        go_wp2_with fail
                        go_roundw
                        case rel => exact ⟨k + 1, by omega, by simp, v', L', nx', _, _, HW'.out, T5.out.ext (X6.out.trans XJ.out), map_ext' H5.out (X6.out.trans XJ.out), map_ext' G5.out (X6.out.trans XJ.out), RP5.out, GO5.out, X5.out.trans (X6.out.trans XJ.out)⟩
                        case measure => simp [intOf]; omega
      · go_wp2
        go_ret
        exact ⟨rfl, X0.out⟩
end Go.Proofs.Ytjjapblpmpidcaa
