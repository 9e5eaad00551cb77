/- PlaceBack: an order, and then the order that leads back, give the graph again: the walk. -/
import Derived.Test.YtocdebfbpfmnnaaXBackPure
import Derived.Test.YtocdebfbpfmnnaaXParts
namespace Go.Proofs.Ytocdebfbpfmnnaa.Pr
open Go.RowKit Go.Proofs.YtocdebfbpfmnnaaW.PrintWords Go.Proofs.YtocdebfbpfmnnaaW.PrintLast Go.Proofs.YtocdebfbpfmnnaaW.PrintMore
set_option linter.unusedVariables false
set_option linter.unusedSimpArgs false

set_option maxHeartbeats 8000000 in
set_option maxRecDepth 100000 in
theorem PlaceBack.walk (A0 : Option Addr) (c0 : Nat) (l0 : List Int) (a1 : Int) (A2 : Option Addr) (c2 : Nat) (l2 : List S79) (A3 : Option Addr) (c3 : Nat) (l3 : List S77) (AH : Option Addr) (cH : Nat) (how : List Int) (w : World)
    (hr0 : Kd.C (Kd.int .i64) w A0 l0.length l0) (hc0 : l0.length ≤ c0) (hr2 : Kd.C k79 w A2 l2.length l2) (hc2 : l2.length ≤ c2) (hr3 : Kd.C k77 w A3 l3.length l3) (hc3 : l3.length ≤ c3) (hrH : Kd.C (Kd.int .i64) w AH how.length how) (hcH : how.length ≤ cH)
    (hg : l0.length * 8 ≤ 140737488355328 ∧ l2.length * 16 ≤ 140737488355328) (hgb : GoodB l3) (hhow : ∀ c ∈ how, wf64 c) (hhl : how.length ≤ 140737488355328) :
    Calls Try.prog 6 #[.agg #[.slice A0 l0.length c0, .int .i64 a1, .slice A2 l2.length c2, .slice A3 l3.length c3], .slice AH how.length cH] w fun e w' => e = .returned (.bool true) ∧ Below w.heap.size w w' := by
  have HR0 := Aside0.mk hr0
  have HC0 := Aside0.mk hc0
  have HR2 := Aside0.mk hr2
  have HC2 := Aside0.mk hc2
  have HR3 := Aside0.mk hr3
  have HC3 := Aside0.mk hc3
  have HRH := Aside0.mk hrH
  have HCH := Aside0.mk hcH
  have HG := Aside0.mk hg
  have HGB := Aside0.mk hgb
  have HHOW := Aside0.mk hhow
  have HHL := Aside0.mk hhl
  clear hr0 hc0 hr2 hc2 hr3 hc3 hrH hcH hg hgb hhow hhl
  have hi3 : (Try.prog.info? 3).map (fun i => (i.zero, i.size, i.bytes)) = some (some (.int .i64 0), 1, 8) := by kernel_rfl
  by_cases hlen : l3.length > 200
  · have hlb : decide ((l3.length : Int) > 200) = true := decide_eq_true (by omega)
    have hlb2 : decide (200 < l3.length) = true := decide_eq_true hlen
    have hlb3 : decide ((200 : Int) < (l3.length : Int)) = true := decide_eq_true (by omega)
    obtain ⟨i24, hi24⟩ : ∃ i, Try.prog.info? 77 = some i := ⟨_, rfl⟩
    have hcut := cut_to (P := Try.prog) 24 77 .i64 Try.underlying24 hi24 A3 l3.length c3 200 (by omega) (by omega) HC3.out
    have HLT := Aside0.mk hlen
    clear hlen hi24
    go_enter Try.func6, Try.ntmps6
    go_upto_region 3 with (fail)
    have BKb := Aside0.mk (heap_alloc_new w (.cells #[.slice A0 l0.length c0, .int .i64 a1, .slice A2 l2.length c2, .slice A3 200 c3] 26))
    have HB0 := Aside0.mk (below_alloc (Below.refl w.heap.size w) (.cells #[.slice A0 l0.length c0, .int .i64 a1, .slice A2 l2.length c2, .slice A3 200 c3] 26))
    generalize w.alloc (.cells #[.slice A0 l0.length c0, .int .i64 a1, .slice A2 l2.length c2, .slice A3 200 c3] 26) = W0 at BKb HB0 ⊢
    have HLL := Aside0.mk (show (l3.take 200).length = 200 by rw [List.length_take]; have := HLT.out; omega)
    have CL0 := Kd.C_take HR3.out (m := 200) (by have := HLT.out; omega)
    have HCL0 : (l3.take 200).length ≤ c3 := by have h1 := HLL.out; have h2 := HC3.out; have h3 := HLT.out; omega
    have GL0 := HGB.out.take 200
    replace BKb := Aside0.mk (show W0.heap[w.heap.size]? = some (.cells #[.slice A0 l0.length c0, .int .i64 a1, .slice A2 l2.length c2, .slice A3 (l3.take 200).length c3] 26 (0, 0)) by rw [HLL.out]; exact BKb.out)
    clear hcut HLL HLT
    generalize l3.take 200 = L at CL0 HCL0 GL0 BKb
    have CL := Aside0.mk CL0
    have HCL := Aside0.mk HCL0
    have GL := Aside0.mk GL0
    clear CL0 HCL0 GL0 HR3 HC3 HGB
    have z0 : W0.cell? ⟨w.heap.size, 0, none⟩ = some (.slice A0 l0.length c0) := (blk_cell BKb.out 0).trans rfl
    have z1 : W0.cell? ⟨w.heap.size, 1, none⟩ = some (.int .i64 a1) := (blk_cell BKb.out 1).trans rfl
    have z2 : W0.cell? ⟨w.heap.size, 2, none⟩ = some (.slice A2 l2.length c2) := (blk_cell BKb.out 2).trans rfl
    have z3 : W0.cell? ⟨w.heap.size, 3, none⟩ = some (.slice A3 L.length c3) := (blk_cell BKb.out 3).trans rfl
    obtain ⟨ke, hke⟩ := (refEdges_is l0 a1 l2 L (fun b hb => ⟨GL.out.blk b hb, GL.out.slim b hb⟩)).rounds
    by_cases hwk : 1 ≤ L.length ∧ L.length ≤ 20000 ∧ walksL L.length L = true
    · have HKE := Aside0.mk (show switchbackref11_Edges.f ke l0 a1 l2 L = some (edgesL L, true) by rw [hke]; unfold refEdges; rw [if_pos hwk])
      have HWK := Aside0.mk hwk
      have HOKE := Aside0.mk (walks_iff.1 hwk.2.2)
      obtain ⟨order, hord, hsh⟩ := shuffled_is how L.length HHOW.out HHL.out hwk.1 hwk.2.1
      obtain ⟨ks, hks⟩ := hsh.rounds
      have HORD := Aside0.mk hord
      have HKS := Aside0.mk hks
      clear hke hwk hord hsh hks
      go_upto_region 6 with (first
        | ((go_at_call 11); refine (switchbackref11_Edges.calls ke _ _ l0 a1 _ _ l2 _ _ L _ _ _ (Kd.C_below HR0.out HB0.out) HC0.out (Kd.C_below HR2.out HB0.out) HC2.out (Kd.C_below CL.out HB0.out) HCL.out HKE.out).mono ?_; rintro e W1 ⟨ve, rfl, hSe, hBe⟩; have BK1 := Aside0.mk (blk_below BKb.out hBe); have HB1 := Aside0.mk (below_then HB0.out HB0.out.size hBe); clear hSe hBe z0 z1 z2 z3; have z3 : W1.cell? ⟨w.heap.size, 3, none⟩ = some (.slice A3 L.length c3) := (blk_cell BK1.out 3).trans rfl)
        | fail)
      go_upto_region 8 with (first
        | ((go_at_call 25); refine (switchbacklaw15_shuffled.calls ks _ _ how _ order _ (Kd.C_below HRH.out HB1.out) HCH.out HKS.out).mono ?_; rintro e W2 ⟨vo, rfl, hRo, hBo⟩; obtain ⟨AO, cO, rfl, hcO, hCO⟩ := Kd.R_reads hRo; have HCO := Aside0.mk hcO; have CO := Aside0.mk hCO; have BK2 := Aside0.mk (blk_below BK1.out hBo); have HB2 := Aside0.mk (below_then HB1.out HB1.out.size hBo); clear hRo hBo hcO hCO z3)
        | ((with_reducible refine gate_dst (N := 37) rfl ?_); refine Kd.R_make (Kd.int .i64) (w0 := W2) W2.heap.size 3 rfl rfl 22 _ _ rfl (order.length : Int) rfl rfl Try.underlying22 (.int .i64 0) 8 hi3 rfl (by decide) (by decide) (0 : Int) (ok := fun _ => True) (okp := fun _ => False) rfl (fun _ h => h.elim) trivial (by omega) (by simp; have := HORD.out.length; have := HWK.out; omega) (Below.refl _ _) (Nat.le_refl _) ?_; intro v3 W3 hR3 hB3 hG3 hO3; rw [Int.toNat_natCast] at hR3; obtain ⟨gK, cK, hv, -⟩ := Kd.R_form hR3 (by rw [List.length_replicate]; have := HORD.out.length; have := HWK.out.1; omega); rw [List.length_replicate] at hv; subst hv; have HB3 := Aside0.mk hB3; have RK := Aside0.mk hR3; clear hR3 hG3 hO3 hB3)
        | fail)
      rename_i K8 a8
      clear hlb hlb2 hlb3
      go_upto_region 12 with (fail)
      go_loopw [9] (fun v9 wr => ∃ (q : Nat) (bk : List Int), q ≤ order.length ∧ v9 = .int .i64 (q : Int) ∧ Aside0 ((Kd.int .i64).R 3 wr W2.heap.size (fun _ => True) (.slice (some ⟨gK, 0, none⟩) order.length cK) bk) ∧ Aside0 (bk.length = L.length) ∧ Aside0 (∀ j : Nat, j < q → rd bk (rd order (j : Int)) = (j : Int)) ∧ Aside0 (Below W2.heap.size W2 wr)) (fun v9 _ => order.length - (intOf v9).toNat)
      case atStart => exact ⟨0, _, Nat.zero_le _, rfl, RK, ⟨by rw [List.length_replicate]; exact HORD.out.length⟩, ⟨fun j hj => absurd hj (Nat.not_lt_zero _)⟩, HB3⟩
      case round =>
        clear RK HB3
        obtain ⟨q, bk, hq, rfl, RK, HBL, HBJ, HB3⟩ := hrel
        have hq2 : (q : Int) + 1 ≤ 9223372036854775807 := by have := HORD.out.length; have := HWK.out; omega
        by_cases hlt : q < order.length
        · have HQ := Aside0.mk hlt
          have hltb : decide ((q : Int) < (order.length : Int)) = true := decide_eq_true (by omega)
          have hlti : (q : Int) < (order.length : Int) := by omega
          obtain ⟨ad, rfl, q0⟩ := Kd.at_int (Kd.C_below CO.out HB3.out) (q : Int) (by omega) hlti
          rw [Int.toNat_natCast] at q0
          have HIN := Aside0.mk (HORD.out.mem.1 (rd_mem (xs := order) (i := (q : Int)) (by omega) hlti))
          obtain ⟨hi0, hi1⟩ := HIN.out
          have hi1' : rd order (q : Int) < (order.length : Int) := by have := HORD.out.length; omega
          have HI0 := Aside0.mk hi0
          have HI1 := Aside0.mk hi1'
          have qc := int_cell RK.out (rd order (q : Int)).toNat (by omega)
          have qf := row_frozen RK.out (rd order (q : Int)).toNat
          clear hlt hi1
          go_wp2
          go_roundw
          case measure => have := HQ.out; simp [intOf]; omega
          case rel => exact ⟨q + 1, _, HQ.out, by go_num, ⟨int_set RK.out _ (by have := HI0.out; have := HI1.out; omega) (q : Int)⟩, ⟨(List.length_set ..).trans HBL.out⟩, ⟨back_step HORD.out HBL.out (by have := HQ.out; have := HORD.out.length; omega) HBJ.out⟩, ⟨below_set HB3.out (Kd.R_base RK.out gK rfl)⟩⟩
        · obtain rfl : q = order.length := by omega
          have hltb : decide ((order.length : Int) < (order.length : Int)) = false := decide_eq_false (by omega)
          have HLD := Aside0.mk (leads_of_back HORD.out HBL.out (fun j hj => HBJ.out j (by have := HORD.out.length; omega)))
          have HKL := Aside0.mk (show order.length = bk.length by rw [HBL.out]; exact HORD.out.length)
          obtain ⟨AK, cK', hvk, hcK, hCK⟩ := Kd.R_reads RK.out
          injection hvk with hv1 hv2 hv3
          subst hv1
          subst hv3
          clear hv2
          have HCK := Aside0.mk hcK
          have CK := Aside0.mk hCK
          obtain ⟨W4, rfl⟩ : ∃ W4 : World, W4 = wr := ⟨_, rfl⟩
          have BK4 := Aside0.mk (blk_below BK2.out HB3.out)
          have HB4 := Aside0.mk (below_then HB2.out HB2.out.size HB3.out)
          have CO4 := Aside0.mk (Kd.C_below CO.out HB3.out)
          clear hlt hcK hCK RK HBJ BK1 BKb
          have z0 : W4.cell? ⟨w.heap.size, 0, none⟩ = some (.slice A0 l0.length c0) := (blk_cell BK4.out 0).trans rfl
          have z1 : W4.cell? ⟨w.heap.size, 1, none⟩ = some (.int .i64 a1) := (blk_cell BK4.out 1).trans rfl
          have z2 : W4.cell? ⟨w.heap.size, 2, none⟩ = some (.slice A2 l2.length c2) := (blk_cell BK4.out 2).trans rfl
          have z3 : W4.cell? ⟨w.heap.size, 3, none⟩ = some (.slice A3 L.length c3) := (blk_cell BK4.out 3).trans rfl
          go_upto_region 13 with (first
            | ((go_at_call 18); refine (place_Reorder.told _ _ l0 a1 _ _ l2 _ _ L _ _ order (edgesL L) _ (Kd.C_below HR0.out HB4.out) HC0.out (Kd.C_below HR2.out HB4.out) HC2.out (Kd.C_below CL.out HB4.out) HCL.out CO4.out HCO.out (edges_some GL.out l0 a1 l2 HWK.out.1 HWK.out.2.1 HWK.out.2.2) ⟨HG.out.1, HG.out.2, by have := HWK.out; show L.length * 128 ≤ _; omega, GL.out.blk⟩ (by have := HORD.out.length; have := HWK.out; omega)).mono ?_; rw [reorderR_ok l0 a1 l2 HWK.out.1 HLD.out HORD.out.2]; rintro e W5 ⟨y0, y2, y3, rfl, hy0, hy2, hy3, hB5⟩; obtain ⟨B0, d0, rfl, hd0, hD0⟩ := Kd.R_reads hy0; obtain ⟨B2, d2, rfl, hd2, hD2⟩ := Kd.R_reads hy2; obtain ⟨B3, d3, rfl, hd3, hD3⟩ := Kd.R_reads hy3; have D0 := Aside0.mk hD0; have D2 := Aside0.mk hD2; have D3 := Aside0.mk hD3; have HD0 := Aside0.mk hd0; have HD2 := Aside0.mk hd2; have HD3 := Aside0.mk hd3; have BK5 := Aside0.mk (blk_below BK4.out hB5); have HB5 := Aside0.mk (below_then HB4.out HB4.out.size hB5); have CK5 := Aside0.mk (Kd.C_below CK.out hB5); clear hy0 hy2 hy3 hd0 hd2 hd3 hD0 hD2 hD3 hB5 z0 z1 z2 z3)
            | fail)
          have BKx := Aside0.mk (heap_alloc_new W5 (.cells #[.slice B0 l0.length d0, .int .i64 a1, .slice B2 l2.length d2, .slice B3 (reorderL L bk order).length d3] 26))
          have HA5 := Aside0.mk (below_alloc (Below.refl W5.heap.size W5) (.cells #[.slice B0 l0.length d0, .int .i64 a1, .slice B2 l2.length d2, .slice B3 (reorderL L bk order).length d3] 26))
          generalize W5.alloc (.cells #[.slice B0 l0.length d0, .int .i64 a1, .slice B2 l2.length d2, .slice B3 (reorderL L bk order).length d3] 26) = W6 at BKx HA5 ⊢
          have BK6 := Aside0.mk (blk_below BK5.out HA5.out)
          have HB6 := Aside0.mk (below_then HB5.out HB5.out.size HA5.out)
          have z0 : W6.cell? ⟨W5.heap.size, 0, none⟩ = some (.slice B0 l0.length d0) := (blk_cell BKx.out 0).trans rfl
          have z1 : W6.cell? ⟨W5.heap.size, 1, none⟩ = some (.int .i64 a1) := (blk_cell BKx.out 1).trans rfl
          have z2 : W6.cell? ⟨W5.heap.size, 2, none⟩ = some (.slice B2 l2.length d2) := (blk_cell BKx.out 2).trans rfl
          have z3 : W6.cell? ⟨W5.heap.size, 3, none⟩ = some (.slice B3 (reorderL L bk order).length d3) := (blk_cell BKx.out 3).trans rfl
          have GR := Aside0.mk (GL.out.reorder HLD.out HWK.out.2.1 HOKE.out)
          have HRL := Aside0.mk (show (reorderL L bk order).length = L.length by rw [length_reorderL]; exact HORD.out.length)
          have HWR := Aside0.mk (show walksL (reorderL L bk order).length (reorderL L bk order) = true by rw [HRL.out]; exact walks_iff.2 (okEnd_reorder HLD.out HOKE.out))
          have HLS := Aside0.mk (show Leads (reorderL L bk order).length bk order by rw [HRL.out]; exact HLD.out.symm)
          have HB0K := Aside0.mk (show rd bk 0 = 0 by
            have h := (HLD.out.there 0 ⟨by omega, by have := HWK.out.1; omega⟩).2
            rw [HORD.out.2] at h
            exact h)
          rw [HKL.out]
          have HBKL := Aside0.mk (show bk.length ≤ cK from HCK.out)
          go_upto_region 14 with (first
            | ((go_at_call 18); refine (place_Reorder.told _ _ l0 a1 _ _ l2 _ _ (reorderL L bk order) _ _ bk (edgesL (reorderL L bk order)) _ (Kd.C_below D0.out HA5.out) HD0.out (Kd.C_below D2.out HA5.out) HD2.out (Kd.C_below D3.out HA5.out) HD3.out (Kd.C_below CK5.out HA5.out) HBKL.out (edges_some GR.out l0 a1 l2 (by rw [HRL.out]; exact HWK.out.1) (by rw [HRL.out]; exact HWK.out.2.1) HWR.out) ⟨HG.out.1, HG.out.2, by have := HWK.out; show (reorderL L bk order).length * 128 ≤ _; rw [HRL.out]; omega, GR.out.blk⟩ (by have := HBL.out; have := HWK.out; omega)).mono ?_; rw [reorderR_ok l0 a1 l2 (by rw [HRL.out]; exact HWK.out.1) HLS.out HB0K.out, reorder_back HLD.out HOKE.out]; rintro e W7 ⟨x0, x2, x3, rfl, hx0, hx2, hx3, hB7⟩; obtain ⟨E0, f0, rfl, hf0, hE0⟩ := Kd.R_reads hx0; obtain ⟨E2, f2, rfl, hf2, hE2⟩ := Kd.R_reads hx2; obtain ⟨E3, f3, rfl, hf3, hE3⟩ := Kd.R_reads hx3; have X0 := Aside0.mk hE0; have X2 := Aside0.mk hE2; have X3 := Aside0.mk hE3; have HF0 := Aside0.mk hf0; have HF2 := Aside0.mk hf2; have HF3 := Aside0.mk hf3; have BK7 := Aside0.mk (blk_below BK6.out hB7); have HB7 := Aside0.mk (below_then HB6.out HB6.out.size hB7); clear hx0 hx2 hx3 hf0 hf2 hf3 hE0 hE2 hE3 hB7 z0 z1 z2 z3)
            | fail)
          have BKy := Aside0.mk (heap_alloc_new W7 (.cells #[.slice E0 l0.length f0, .int .i64 a1, .slice E2 l2.length f2, .slice E3 L.length f3] 26))
          have HA7 := Aside0.mk (below_alloc (Below.refl W7.heap.size W7) (.cells #[.slice E0 l0.length f0, .int .i64 a1, .slice E2 l2.length f2, .slice E3 L.length f3] 26))
          generalize W7.alloc (.cells #[.slice E0 l0.length f0, .int .i64 a1, .slice E2 l2.length f2, .slice E3 L.length f3] 26) = W8 at BKy HA7 ⊢
          have BK8 := Aside0.mk (blk_below BK7.out HA7.out)
          have HB8 := Aside0.mk (below_then HB7.out HB7.out.size HA7.out)
          have HKG := Aside0.mk (show okGr ⟨l0, a1, l2, L⟩ from ⟨HG.out.1, HG.out.2, by have := HWK.out; show L.length * 128 ≤ _; omega, GL.out.blk⟩)
          go_wp2_with (first
            | ((go_at_call 12); refine (live15.calls _).mono ?_; rintro e W9 ⟨rfl, hBl⟩; have HA9 := Aside0.mk hBl; have BK9 := Aside0.mk (blk_below BK8.out hBl); have BKz := Aside0.mk (blk_below BKy.out hBl); have HB9 := Aside0.mk (below_then HB8.out HB8.out.size hBl); clear hBl; have z0 : W9.cell? ⟨w.heap.size, 0, none⟩ = some (.slice A0 l0.length c0) := (blk_cell BK9.out 0).trans rfl; have z1 : W9.cell? ⟨w.heap.size, 1, none⟩ = some (.int .i64 a1) := (blk_cell BK9.out 1).trans rfl; have z2 : W9.cell? ⟨w.heap.size, 2, none⟩ = some (.slice A2 l2.length c2) := (blk_cell BK9.out 2).trans rfl; have z3 : W9.cell? ⟨w.heap.size, 3, none⟩ = some (.slice A3 L.length c3) := (blk_cell BK9.out 3).trans rfl; have y0 : W9.cell? ⟨W7.heap.size, 0, none⟩ = some (.slice E0 l0.length f0) := (blk_cell BKz.out 0).trans rfl; have y1 : W9.cell? ⟨W7.heap.size, 1, none⟩ = some (.int .i64 a1) := (blk_cell BKz.out 1).trans rfl; have y2 : W9.cell? ⟨W7.heap.size, 2, none⟩ = some (.slice E2 l2.length f2) := (blk_cell BKz.out 2).trans rfl; have y3 : W9.cell? ⟨W7.heap.size, 3, none⟩ = some (.slice E3 L.length f3) := (blk_cell BKz.out 3).trans rfl)
            | ((go_at_call 13); refine (sameGraph.told ⟨l0, a1, l2, L⟩ _ _ _ _ _ _ _ _ _ _ _ _ _ (Kd.C_below (Kd.C_below X0.out HA7.out) HA9.out) HF0.out (Kd.C_below HR0.out HB9.out) HC0.out (Kd.C_below (Kd.C_below X2.out HA7.out) HA9.out) HF2.out (Kd.C_below HR2.out HB9.out) HC2.out (Kd.C_below (Kd.C_below X3.out HA7.out) HA9.out) HF3.out (Kd.C_below CL.out HB9.out) HCL.out HKG.out).mono ?_; rintro e W10 ⟨rfl, hBs⟩; have HB10 := Aside0.mk (below_then HB9.out HB9.out.size hBs); clear hBs z0 z1 z2 z3 y0 y1 y2 y3)
            | fail)
          go_ret
          exact ⟨rfl, HB10.out⟩
    · have HKE := Aside0.mk (show switchbackref11_Edges.f ke l0 a1 l2 L = some ([], false) by rw [hke]; unfold refEdges; rw [if_neg hwk])
      clear hke hwk
      go_wp2_with (first
        | ((go_at_call 11); refine (switchbackref11_Edges.calls ke _ _ l0 a1 _ _ l2 _ _ L _ _ _ (Kd.C_below HR0.out HB0.out) HC0.out (Kd.C_below HR2.out HB0.out) HC2.out (Kd.C_below CL.out HB0.out) HCL.out HKE.out).mono ?_; rintro e W1 ⟨ve, rfl, hSe, hBe⟩; have HB1 := Aside0.mk (below_then HB0.out HB0.out.size hBe); clear hSe hBe z0 z1 z2 z3)
        | ((go_at_call 12); refine (live15.calls _).mono ?_; rintro e W2 ⟨rfl, hBl⟩; have HB2 := Aside0.mk (below_then HB1.out HB1.out.size hBl); clear hBl)
        | fail)
      go_ret
      exact ⟨rfl, HB2.out⟩
  · have hlb : decide ((l3.length : Int) > 200) = false := decide_eq_false (by omega)
    have hlb2 : decide (200 < l3.length) = false := decide_eq_false hlen
    have hlb3 : decide ((200 : Int) < (l3.length : Int)) = false := decide_eq_false (by omega)
    clear hlen
    go_enter Try.func6, Try.ntmps6
    go_upto_region 3 with (fail)
    have BKb := Aside0.mk (heap_alloc_new w (.cells #[.slice A0 l0.length c0, .int .i64 a1, .slice A2 l2.length c2, .slice A3 l3.length c3] 26))
    have HB0 := Aside0.mk (below_alloc (Below.refl w.heap.size w) (.cells #[.slice A0 l0.length c0, .int .i64 a1, .slice A2 l2.length c2, .slice A3 l3.length c3] 26))
    generalize w.alloc (.cells #[.slice A0 l0.length c0, .int .i64 a1, .slice A2 l2.length c2, .slice A3 l3.length c3] 26) = W0 at BKb HB0 ⊢
    have CL := HR3
    have HCL := HC3
    have GL := HGB
    clear HR3 HC3 HGB
    obtain ⟨L, rfl⟩ : ∃ L, L = l3 := ⟨_, rfl⟩
    have z0 : W0.cell? ⟨w.heap.size, 0, none⟩ = some (.slice A0 l0.length c0) := (blk_cell BKb.out 0).trans rfl
    have z1 : W0.cell? ⟨w.heap.size, 1, none⟩ = some (.int .i64 a1) := (blk_cell BKb.out 1).trans rfl
    have z2 : W0.cell? ⟨w.heap.size, 2, none⟩ = some (.slice A2 l2.length c2) := (blk_cell BKb.out 2).trans rfl
    have z3 : W0.cell? ⟨w.heap.size, 3, none⟩ = some (.slice A3 L.length c3) := (blk_cell BKb.out 3).trans rfl
    obtain ⟨ke, hke⟩ := (refEdges_is l0 a1 l2 L (fun b hb => ⟨GL.out.blk b hb, GL.out.slim b hb⟩)).rounds
    by_cases hwk : 1 ≤ L.length ∧ L.length ≤ 20000 ∧ walksL L.length L = true
    · have HKE := Aside0.mk (show switchbackref11_Edges.f ke l0 a1 l2 L = some (edgesL L, true) by rw [hke]; unfold refEdges; rw [if_pos hwk])
      have HWK := Aside0.mk hwk
      have HOKE := Aside0.mk (walks_iff.1 hwk.2.2)
      obtain ⟨order, hord, hsh⟩ := shuffled_is how L.length HHOW.out HHL.out hwk.1 hwk.2.1
      obtain ⟨ks, hks⟩ := hsh.rounds
      have HORD := Aside0.mk hord
      have HKS := Aside0.mk hks
      clear hke hwk hord hsh hks
      go_upto_region 6 with (first
        | ((go_at_call 11); refine (switchbackref11_Edges.calls ke _ _ l0 a1 _ _ l2 _ _ L _ _ _ (Kd.C_below HR0.out HB0.out) HC0.out (Kd.C_below HR2.out HB0.out) HC2.out (Kd.C_below CL.out HB0.out) HCL.out HKE.out).mono ?_; rintro e W1 ⟨ve, rfl, hSe, hBe⟩; have BK1 := Aside0.mk (blk_below BKb.out hBe); have HB1 := Aside0.mk (below_then HB0.out HB0.out.size hBe); clear hSe hBe z0 z1 z2 z3; have z3 : W1.cell? ⟨w.heap.size, 3, none⟩ = some (.slice A3 L.length c3) := (blk_cell BK1.out 3).trans rfl)
        | fail)
      go_upto_region 8 with (first
        | ((go_at_call 25); refine (switchbacklaw15_shuffled.calls ks _ _ how _ order _ (Kd.C_below HRH.out HB1.out) HCH.out HKS.out).mono ?_; rintro e W2 ⟨vo, rfl, hRo, hBo⟩; obtain ⟨AO, cO, rfl, hcO, hCO⟩ := Kd.R_reads hRo; have HCO := Aside0.mk hcO; have CO := Aside0.mk hCO; have BK2 := Aside0.mk (blk_below BK1.out hBo); have HB2 := Aside0.mk (below_then HB1.out HB1.out.size hBo); clear hRo hBo hcO hCO z3)
        | ((with_reducible refine gate_dst (N := 37) rfl ?_); refine Kd.R_make (Kd.int .i64) (w0 := W2) W2.heap.size 3 rfl rfl 22 _ _ rfl (order.length : Int) rfl rfl Try.underlying22 (.int .i64 0) 8 hi3 rfl (by decide) (by decide) (0 : Int) (ok := fun _ => True) (okp := fun _ => False) rfl (fun _ h => h.elim) trivial (by omega) (by simp; have := HORD.out.length; have := HWK.out; omega) (Below.refl _ _) (Nat.le_refl _) ?_; intro v3 W3 hR3 hB3 hG3 hO3; rw [Int.toNat_natCast] at hR3; obtain ⟨gK, cK, hv, -⟩ := Kd.R_form hR3 (by rw [List.length_replicate]; have := HORD.out.length; have := HWK.out.1; omega); rw [List.length_replicate] at hv; subst hv; have HB3 := Aside0.mk hB3; have RK := Aside0.mk hR3; clear hR3 hG3 hO3 hB3)
        | fail)
      rename_i K8 a8
      clear hlb hlb2 hlb3
      go_upto_region 12 with (fail)
      go_loopw [9] (fun v9 wr => ∃ (q : Nat) (bk : List Int), q ≤ order.length ∧ v9 = .int .i64 (q : Int) ∧ Aside0 ((Kd.int .i64).R 3 wr W2.heap.size (fun _ => True) (.slice (some ⟨gK, 0, none⟩) order.length cK) bk) ∧ Aside0 (bk.length = L.length) ∧ Aside0 (∀ j : Nat, j < q → rd bk (rd order (j : Int)) = (j : Int)) ∧ Aside0 (Below W2.heap.size W2 wr)) (fun v9 _ => order.length - (intOf v9).toNat)
      case atStart => exact ⟨0, _, Nat.zero_le _, rfl, RK, ⟨by rw [List.length_replicate]; exact HORD.out.length⟩, ⟨fun j hj => absurd hj (Nat.not_lt_zero _)⟩, HB3⟩
      case round =>
        clear RK HB3
        obtain ⟨q, bk, hq, rfl, RK, HBL, HBJ, HB3⟩ := hrel
        have hq2 : (q : Int) + 1 ≤ 9223372036854775807 := by have := HORD.out.length; have := HWK.out; omega
        by_cases hlt : q < order.length
        · have HQ := Aside0.mk hlt
          have hltb : decide ((q : Int) < (order.length : Int)) = true := decide_eq_true (by omega)
          have hlti : (q : Int) < (order.length : Int) := by omega
          obtain ⟨ad, rfl, q0⟩ := Kd.at_int (Kd.C_below CO.out HB3.out) (q : Int) (by omega) hlti
          rw [Int.toNat_natCast] at q0
          have HIN := Aside0.mk (HORD.out.mem.1 (rd_mem (xs := order) (i := (q : Int)) (by omega) hlti))
          obtain ⟨hi0, hi1⟩ := HIN.out
          have hi1' : rd order (q : Int) < (order.length : Int) := by have := HORD.out.length; omega
          have HI0 := Aside0.mk hi0
          have HI1 := Aside0.mk hi1'
          have qc := int_cell RK.out (rd order (q : Int)).toNat (by omega)
          have qf := row_frozen RK.out (rd order (q : Int)).toNat
          clear hlt hi1
          go_wp2
          go_roundw
          case measure => have := HQ.out; simp [intOf]; omega
          case rel => exact ⟨q + 1, _, HQ.out, by go_num, ⟨int_set RK.out _ (by have := HI0.out; have := HI1.out; omega) (q : Int)⟩, ⟨(List.length_set ..).trans HBL.out⟩, ⟨back_step HORD.out HBL.out (by have := HQ.out; have := HORD.out.length; omega) HBJ.out⟩, ⟨below_set HB3.out (Kd.R_base RK.out gK rfl)⟩⟩
        · obtain rfl : q = order.length := by omega
          have hltb : decide ((order.length : Int) < (order.length : Int)) = false := decide_eq_false (by omega)
          have HLD := Aside0.mk (leads_of_back HORD.out HBL.out (fun j hj => HBJ.out j (by have := HORD.out.length; omega)))
          have HKL := Aside0.mk (show order.length = bk.length by rw [HBL.out]; exact HORD.out.length)
          obtain ⟨AK, cK', hvk, hcK, hCK⟩ := Kd.R_reads RK.out
          injection hvk with hv1 hv2 hv3
          subst hv1
          subst hv3
          clear hv2
          have HCK := Aside0.mk hcK
          have CK := Aside0.mk hCK
          obtain ⟨W4, rfl⟩ : ∃ W4 : World, W4 = wr := ⟨_, rfl⟩
          have BK4 := Aside0.mk (blk_below BK2.out HB3.out)
          have HB4 := Aside0.mk (below_then HB2.out HB2.out.size HB3.out)
          have CO4 := Aside0.mk (Kd.C_below CO.out HB3.out)
          clear hlt hcK hCK RK HBJ BK1 BKb
          have z0 : W4.cell? ⟨w.heap.size, 0, none⟩ = some (.slice A0 l0.length c0) := (blk_cell BK4.out 0).trans rfl
          have z1 : W4.cell? ⟨w.heap.size, 1, none⟩ = some (.int .i64 a1) := (blk_cell BK4.out 1).trans rfl
          have z2 : W4.cell? ⟨w.heap.size, 2, none⟩ = some (.slice A2 l2.length c2) := (blk_cell BK4.out 2).trans rfl
          have z3 : W4.cell? ⟨w.heap.size, 3, none⟩ = some (.slice A3 L.length c3) := (blk_cell BK4.out 3).trans rfl
          go_upto_region 13 with (first
            | ((go_at_call 18); refine (place_Reorder.told _ _ l0 a1 _ _ l2 _ _ L _ _ order (edgesL L) _ (Kd.C_below HR0.out HB4.out) HC0.out (Kd.C_below HR2.out HB4.out) HC2.out (Kd.C_below CL.out HB4.out) HCL.out CO4.out HCO.out (edges_some GL.out l0 a1 l2 HWK.out.1 HWK.out.2.1 HWK.out.2.2) ⟨HG.out.1, HG.out.2, by have := HWK.out; show L.length * 128 ≤ _; omega, GL.out.blk⟩ (by have := HORD.out.length; have := HWK.out; omega)).mono ?_; rw [reorderR_ok l0 a1 l2 HWK.out.1 HLD.out HORD.out.2]; rintro e W5 ⟨y0, y2, y3, rfl, hy0, hy2, hy3, hB5⟩; obtain ⟨B0, d0, rfl, hd0, hD0⟩ := Kd.R_reads hy0; obtain ⟨B2, d2, rfl, hd2, hD2⟩ := Kd.R_reads hy2; obtain ⟨B3, d3, rfl, hd3, hD3⟩ := Kd.R_reads hy3; have D0 := Aside0.mk hD0; have D2 := Aside0.mk hD2; have D3 := Aside0.mk hD3; have HD0 := Aside0.mk hd0; have HD2 := Aside0.mk hd2; have HD3 := Aside0.mk hd3; have BK5 := Aside0.mk (blk_below BK4.out hB5); have HB5 := Aside0.mk (below_then HB4.out HB4.out.size hB5); have CK5 := Aside0.mk (Kd.C_below CK.out hB5); clear hy0 hy2 hy3 hd0 hd2 hd3 hD0 hD2 hD3 hB5 z0 z1 z2 z3)
            | fail)
          have BKx := Aside0.mk (heap_alloc_new W5 (.cells #[.slice B0 l0.length d0, .int .i64 a1, .slice B2 l2.length d2, .slice B3 (reorderL L bk order).length d3] 26))
          have HA5 := Aside0.mk (below_alloc (Below.refl W5.heap.size W5) (.cells #[.slice B0 l0.length d0, .int .i64 a1, .slice B2 l2.length d2, .slice B3 (reorderL L bk order).length d3] 26))
          generalize W5.alloc (.cells #[.slice B0 l0.length d0, .int .i64 a1, .slice B2 l2.length d2, .slice B3 (reorderL L bk order).length d3] 26) = W6 at BKx HA5 ⊢
          have BK6 := Aside0.mk (blk_below BK5.out HA5.out)
          have HB6 := Aside0.mk (below_then HB5.out HB5.out.size HA5.out)
          have z0 : W6.cell? ⟨W5.heap.size, 0, none⟩ = some (.slice B0 l0.length d0) := (blk_cell BKx.out 0).trans rfl
          have z1 : W6.cell? ⟨W5.heap.size, 1, none⟩ = some (.int .i64 a1) := (blk_cell BKx.out 1).trans rfl
          have z2 : W6.cell? ⟨W5.heap.size, 2, none⟩ = some (.slice B2 l2.length d2) := (blk_cell BKx.out 2).trans rfl
          have z3 : W6.cell? ⟨W5.heap.size, 3, none⟩ = some (.slice B3 (reorderL L bk order).length d3) := (blk_cell BKx.out 3).trans rfl
          have GR := Aside0.mk (GL.out.reorder HLD.out HWK.out.2.1 HOKE.out)
          have HRL := Aside0.mk (show (reorderL L bk order).length = L.length by rw [length_reorderL]; exact HORD.out.length)
          have HWR := Aside0.mk (show walksL (reorderL L bk order).length (reorderL L bk order) = true by rw [HRL.out]; exact walks_iff.2 (okEnd_reorder HLD.out HOKE.out))
          have HLS := Aside0.mk (show Leads (reorderL L bk order).length bk order by rw [HRL.out]; exact HLD.out.symm)
          have HB0K := Aside0.mk (show rd bk 0 = 0 by
            have h := (HLD.out.there 0 ⟨by omega, by have := HWK.out.1; omega⟩).2
            rw [HORD.out.2] at h
            exact h)
          rw [HKL.out]
          have HBKL := Aside0.mk (show bk.length ≤ cK from HCK.out)
          go_upto_region 14 with (first
            | ((go_at_call 18); refine (place_Reorder.told _ _ l0 a1 _ _ l2 _ _ (reorderL L bk order) _ _ bk (edgesL (reorderL L bk order)) _ (Kd.C_below D0.out HA5.out) HD0.out (Kd.C_below D2.out HA5.out) HD2.out (Kd.C_below D3.out HA5.out) HD3.out (Kd.C_below CK5.out HA5.out) HBKL.out (edges_some GR.out l0 a1 l2 (by rw [HRL.out]; exact HWK.out.1) (by rw [HRL.out]; exact HWK.out.2.1) HWR.out) ⟨HG.out.1, HG.out.2, by have := HWK.out; show (reorderL L bk order).length * 128 ≤ _; rw [HRL.out]; omega, GR.out.blk⟩ (by have := HBL.out; have := HWK.out; omega)).mono ?_; rw [reorderR_ok l0 a1 l2 (by rw [HRL.out]; exact HWK.out.1) HLS.out HB0K.out, reorder_back HLD.out HOKE.out]; rintro e W7 ⟨x0, x2, x3, rfl, hx0, hx2, hx3, hB7⟩; obtain ⟨E0, f0, rfl, hf0, hE0⟩ := Kd.R_reads hx0; obtain ⟨E2, f2, rfl, hf2, hE2⟩ := Kd.R_reads hx2; obtain ⟨E3, f3, rfl, hf3, hE3⟩ := Kd.R_reads hx3; have X0 := Aside0.mk hE0; have X2 := Aside0.mk hE2; have X3 := Aside0.mk hE3; have HF0 := Aside0.mk hf0; have HF2 := Aside0.mk hf2; have HF3 := Aside0.mk hf3; have BK7 := Aside0.mk (blk_below BK6.out hB7); have HB7 := Aside0.mk (below_then HB6.out HB6.out.size hB7); clear hx0 hx2 hx3 hf0 hf2 hf3 hE0 hE2 hE3 hB7 z0 z1 z2 z3)
            | fail)
          have BKy := Aside0.mk (heap_alloc_new W7 (.cells #[.slice E0 l0.length f0, .int .i64 a1, .slice E2 l2.length f2, .slice E3 L.length f3] 26))
          have HA7 := Aside0.mk (below_alloc (Below.refl W7.heap.size W7) (.cells #[.slice E0 l0.length f0, .int .i64 a1, .slice E2 l2.length f2, .slice E3 L.length f3] 26))
          generalize W7.alloc (.cells #[.slice E0 l0.length f0, .int .i64 a1, .slice E2 l2.length f2, .slice E3 L.length f3] 26) = W8 at BKy HA7 ⊢
          have BK8 := Aside0.mk (blk_below BK7.out HA7.out)
          have HB8 := Aside0.mk (below_then HB7.out HB7.out.size HA7.out)
          have HKG := Aside0.mk (show okGr ⟨l0, a1, l2, L⟩ from ⟨HG.out.1, HG.out.2, by have := HWK.out; show L.length * 128 ≤ _; omega, GL.out.blk⟩)
          go_wp2_with (first
            | ((go_at_call 12); refine (live15.calls _).mono ?_; rintro e W9 ⟨rfl, hBl⟩; have HA9 := Aside0.mk hBl; have BK9 := Aside0.mk (blk_below BK8.out hBl); have BKz := Aside0.mk (blk_below BKy.out hBl); have HB9 := Aside0.mk (below_then HB8.out HB8.out.size hBl); clear hBl; have z0 : W9.cell? ⟨w.heap.size, 0, none⟩ = some (.slice A0 l0.length c0) := (blk_cell BK9.out 0).trans rfl; have z1 : W9.cell? ⟨w.heap.size, 1, none⟩ = some (.int .i64 a1) := (blk_cell BK9.out 1).trans rfl; have z2 : W9.cell? ⟨w.heap.size, 2, none⟩ = some (.slice A2 l2.length c2) := (blk_cell BK9.out 2).trans rfl; have z3 : W9.cell? ⟨w.heap.size, 3, none⟩ = some (.slice A3 L.length c3) := (blk_cell BK9.out 3).trans rfl; have y0 : W9.cell? ⟨W7.heap.size, 0, none⟩ = some (.slice E0 l0.length f0) := (blk_cell BKz.out 0).trans rfl; have y1 : W9.cell? ⟨W7.heap.size, 1, none⟩ = some (.int .i64 a1) := (blk_cell BKz.out 1).trans rfl; have y2 : W9.cell? ⟨W7.heap.size, 2, none⟩ = some (.slice E2 l2.length f2) := (blk_cell BKz.out 2).trans rfl; have y3 : W9.cell? ⟨W7.heap.size, 3, none⟩ = some (.slice E3 L.length f3) := (blk_cell BKz.out 3).trans rfl)
            | ((go_at_call 13); refine (sameGraph.told ⟨l0, a1, l2, L⟩ _ _ _ _ _ _ _ _ _ _ _ _ _ (Kd.C_below (Kd.C_below X0.out HA7.out) HA9.out) HF0.out (Kd.C_below HR0.out HB9.out) HC0.out (Kd.C_below (Kd.C_below X2.out HA7.out) HA9.out) HF2.out (Kd.C_below HR2.out HB9.out) HC2.out (Kd.C_below (Kd.C_below X3.out HA7.out) HA9.out) HF3.out (Kd.C_below CL.out HB9.out) HCL.out HKG.out).mono ?_; rintro e W10 ⟨rfl, hBs⟩; have HB10 := Aside0.mk (below_then HB9.out HB9.out.size hBs); clear hBs z0 z1 z2 z3 y0 y1 y2 y3)
            | fail)
          go_ret
          exact ⟨rfl, HB10.out⟩
    · have HKE := Aside0.mk (show switchbackref11_Edges.f ke l0 a1 l2 L = some ([], false) by rw [hke]; unfold refEdges; rw [if_neg hwk])
      clear hke hwk
      go_wp2_with (first
        | ((go_at_call 11); refine (switchbackref11_Edges.calls ke _ _ l0 a1 _ _ l2 _ _ L _ _ _ (Kd.C_below HR0.out HB0.out) HC0.out (Kd.C_below HR2.out HB0.out) HC2.out (Kd.C_below CL.out HB0.out) HCL.out HKE.out).mono ?_; rintro e W1 ⟨ve, rfl, hSe, hBe⟩; have HB1 := Aside0.mk (below_then HB0.out HB0.out.size hBe); clear hSe hBe z0 z1 z2 z3)
        | ((go_at_call 12); refine (live15.calls _).mono ?_; rintro e W2 ⟨rfl, hBl⟩; have HB2 := Aside0.mk (below_then HB1.out HB1.out.size hBl); clear hBl)
        | fail)
      go_ret
      exact ⟨rfl, HB2.out⟩
end Go.Proofs.Ytocdebfbpfmnnaa.Pr
