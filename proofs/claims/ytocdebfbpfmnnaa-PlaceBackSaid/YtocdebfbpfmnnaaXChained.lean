/- place.chained: which block must stand directly behind each one. -/
import Derived.Test.YtocdebfbpfmnnaaXPlainB
import Derived.Test.YtocdebfbpfmnnaaXLoop3
import Derived.Test.YtocdebfbpfmnnaaXFuncs
import Derived.Test.YtocdebfbpfmnnaaXParts
namespace Go.Proofs.Ytocdebfbpfmnnaa.Pr
open Go.RowKit Go.Proofs.YtocdebfbpfmnnaaW.PrintWords Go.Proofs.YtocdebfbpfmnnaaW.PrintLast Go.Proofs.YtocdebfbpfmnnaaW.PrintMore
set_option linter.unusedVariables false
set_option linter.unusedSimpArgs false

set_option maxHeartbeats 4000000 in
set_option maxRecDepth 100000 in
theorem place_chained.told (A0 : Option Addr) (c0 : Nat) (l0 : List Int) (a1 : Int) (A2 : Option Addr) (c2 : Nat) (l2 : List S79) (A3 : Option Addr) (c3 : Nat) (l3 : List S77) (AT : Option Addr) (cT : Nat) (tos : List (List Int)) (AM : Option Addr) (cM : Nat) (met : List Int) (w : World)
    (hr3 : Kd.C k77 w A3 l3.length l3) (hc3 : l3.length ≤ c3) (hrT : Kd.C (Kd.slice 3 (Kd.int .i64)) w AT tos.length tos) (hcT : tos.length ≤ cT) (hrM : Kd.C (Kd.int .i64) w AM met.length met) (hcM : met.length ≤ cM)
    (hn : 1 ≤ l3.length) (hlT : tos.length = l3.length) (hlM : met.length = l3.length) (hsz : l3.length ≤ 20000) (hin : ∀ l ∈ tos, l.length ≤ 20000 ∧ ∀ c ∈ l, inL l3.length c) (hok : ∀ b ∈ l3, okEnd l3.length b.f1) :
    Calls Try.prog 34 #[.agg #[.slice A0 l0.length c0, .int .i64 a1, .slice A2 l2.length c2, .slice A3 l3.length c3], .slice AT tos.length cT, .slice AM met.length cM] w fun e w' =>
      ∃ v0 : Value, e = .returned v0 ∧ Kd.R (Kd.int .i64) 3 w' w.heap.size (fun _ => True) v0 (chainedL l3 tos met) ∧ Below w.heap.size w w' := by
  have HR3 := Aside0.mk hr3
  have HC3 := Aside0.mk hc3
  have HRT := Aside0.mk hrT
  have HCT := Aside0.mk hcT
  have HRM := Aside0.mk hrM
  have HCM := Aside0.mk hcM
  have HN := Aside0.mk hn
  have HLT := Aside0.mk hlT
  have HLM := Aside0.mk hlM
  have HSZ := Aside0.mk hsz
  have HIN := Aside0.mk hin
  have HOK := Aside0.mk hok
  clear hr3 hc3 hrT hcT hrM hcM hn hlT hlM hsz hin hok
  have hi3 : (Try.prog.info? 3).map (fun i => (i.zero, i.size, i.bytes)) = some (some (.int .i64 0), 1, 8) := by kernel_rfl
  go_enter Try.func34, Try.ntmps34
  have HW0 := Aside0.mk (below_alloc (Below.refl w.heap.size w) (.cells #[.slice A0 l0.length c0, .int .i64 a1, .slice A2 l2.length c2, .slice A3 l3.length c3] 26))
  have hTb : (0 : Int) ≤ (tos.length : Int) := by omega
  go_wp2_with (first
    | ((with_reducible refine gate_dst (N := 19) rfl ?_); refine Kd.R_make (Kd.int .i64) (w0 := w) w.heap.size 3 rfl rfl 22 _ _ rfl (tos.length : Int) rfl rfl Try.underlying22 (.int .i64 0) 8 hi3 rfl (by decide) (by decide) (0 : Int) (ok := fun _ => True) (okp := fun _ => False) rfl (fun _ h => h.elim) trivial (by omega) (by simp; have := HLT.out; have := HSZ.out; omega) HW0.out HW0.out.size ?_; intro v1 w1 hR1 hB1 hG1 hO1; rw [Int.toNat_natCast] at hR1; obtain ⟨gR, cR, hv, hgb, hgl, -⟩ := Kd.R_form hR1 (by rw [List.length_replicate]; have := HN.out; have := HLT.out; omega); rw [List.length_replicate] at hv; subst hv; have HGE := Aside0.mk (show w.heap.size < gR by obtain ⟨b, hb1, hb2⟩ := hO1; have : gR = b := (by simpa [Value.ownBlock] using hb1); rw [World.size_alloc] at hb2; omega); have BKg := Aside0.mk (blk_grown (row := none) (o := .cells #[.slice A0 l0.length c0, .int .i64 a1, .slice A2 l2.length c2, .slice A3 l3.length c3] 26 (0, 0)) (g := w.heap.size) (heap_alloc_new w _) hG1 (by simp)); have HGL := Aside0.mk hgl; have HB := Aside0.mk hB1; have HRW := Aside0.mk hR1; clear hR1 hgb hgl hO1 hB1 hG1)
    | fail)
  go_loopw [22] (fun v22 wr => ∃ q : Nat, q ≤ tos.length ∧ v22 = .int .i64 (q : Int) ∧ Aside0 ((Kd.int .i64).R 3 wr w.heap.size (fun _ => True) (.slice (some ⟨gR, 0, none⟩) tos.length cR) (countAll (List.replicate tos.length 0) (tos.take q))) ∧ Aside0 (countIn (q * 20000) (countAll (List.replicate tos.length 0) (tos.take q))) ∧
    Aside0 (wr.heap[w.heap.size]? = some (.cells #[.slice A0 l0.length c0, .int .i64 a1, .slice A2 l2.length c2, .slice A3 l3.length c3] 26 (0, 0))) ∧ Aside0 (wr.heap[w1.heap.size]? = some (.cells #[.slice (some ⟨gR, 0, none⟩) tos.length cR] 22 (0, 0))) ∧ Aside0 (Below w.heap.size w wr)) (fun v22 _ => tos.length - (intOf v22).toNat)
  case atStart => exact ⟨0, Nat.zero_le _, rfl, ⟨by simpa [countAll] using Kd.R_alloc HRW.out _⟩, ⟨by intro x hx; simp only [List.take_zero, countAll] at hx; rw [List.eq_of_mem_replicate hx]; omega⟩, ⟨blk_alloc BKg.out _⟩, ⟨heap_alloc_new _ _⟩, ⟨below_alloc HB.out _⟩⟩
  case round =>
    obtain ⟨q, hq, rfl, RQ, CQ, BKg, BKo, HBq⟩ := hrel
    have hq2 : (q : Int) + 1 ≤ 9223372036854775807 := by have := HLT.out; have := HSZ.out; omega
    by_cases hlt : q < tos.length
    · have HQT := Aside0.mk hlt
      have hltb : decide ((q : Int) < (tos.length : Int)) = true := decide_eq_true (by omega)
      have hlti : (q : Int) < (tos.length : Int) := by omega
      obtain ⟨ad, Al, cl, rfl, qa0, hcl, hCl⟩ := at_L2 HRT.out (q : Int) (by omega) hlti
      rw [Int.toNat_natCast] at qa0
      have HQA := Aside0.mk qa0
      have qa : wr.cell? (ad.add q) = some (.slice Al (rd_L2 tos (q : Int)).length cl) := (HBq.out.cell (World.block_lt_of_cell? w _ qa0)).trans qa0
      have HCl := Aside0.mk hCl
      have HLl := Aside0.mk (HIN.out (rd_L2 tos (q : Int)) (by rw [rdL_at hlt]; exact List.getElem_mem hlt))
      clear hCl hcl hlt qa0
      go_wp2
      obtain ⟨wo, rfl⟩ : ∃ wo : World, wo = wr := ⟨_, rfl⟩
      go_loopw [28] (fun v28 wr => ∃ r : Nat, r ≤ (rd_L2 tos (q : Int)).length ∧ v28 = .int .i64 (r : Int) ∧ Aside0 ((Kd.int .i64).R 3 wr w.heap.size (fun _ => True) (.slice (some ⟨gR, 0, none⟩) tos.length cR) (count1 (countAll (List.replicate tos.length 0) (tos.take q)) ((rd_L2 tos (q : Int)).take r))) ∧ Aside0 (countIn (q * 20000 + r) (count1 (countAll (List.replicate tos.length 0) (tos.take q)) ((rd_L2 tos (q : Int)).take r))) ∧
        Aside0 (wr.heap[w.heap.size]? = some (.cells #[.slice A0 l0.length c0, .int .i64 a1, .slice A2 l2.length c2, .slice A3 l3.length c3] 26 (0, 0))) ∧ Aside0 (wr.heap[w1.heap.size]? = some (.cells #[.slice (some ⟨gR, 0, none⟩) tos.length cR] 22 (0, 0))) ∧ Aside0 (Below w.heap.size w wr)) (fun v28 _ => (rd_L2 tos (q : Int)).length - (intOf v28).toNat)
      case atStart => exact ⟨0, Nat.zero_le _, rfl, RQ, CQ, BKg, BKo, HBq⟩
      case round =>
        clear RQ CQ BKg BKo qa
        have HBo := HBq
        clear HBq
        obtain ⟨r, hr, rfl, RQ, CQ, BKg, BKo, HBq⟩ := hrel
        have hr2 : (r : Int) + 1 ≤ 9223372036854775807 := by have := HLl.out.1; omega
        by_cases hrt : r < (rd_L2 tos (q : Int)).length
        · have HRT2 := Aside0.mk hrt
          have hrtb : decide ((r : Int) < ((rd_L2 tos (q : Int)).length : Int)) = true := decide_eq_true (by omega)
          have hrti : (r : Int) < ((rd_L2 tos (q : Int)).length : Int) := by omega
          obtain ⟨adl, rfl, ql⟩ := Kd.at_int (Kd.C_below HCl.out HBq.out) (r : Int) (by omega) hrti
          rw [Int.toNat_natCast] at ql
          have hcin := HLl.out.2 (rd (rd_L2 tos (q : Int)) (r : Int)) (rd_mem (by omega) hrti)
          obtain ⟨hc0, hc1⟩ := hcin
          have hc1' : rd (rd_L2 tos (q : Int)) (r : Int) < (tos.length : Int) := by have := HLT.out; omega
          have qc : wr.cell? ⟨gR, (rd (rd_L2 tos (q : Int)) (r : Int)).toNat, none⟩ = some (.int .i64 (rd (count1 (countAll (List.replicate tos.length 0) (tos.take q)) ((rd_L2 tos (q : Int)).take r)) (rd (rd_L2 tos (q : Int)) (r : Int)))) := int_cell RQ.out (rd (rd_L2 tos (q : Int)) (r : Int)).toNat (by omega)
          have qf := row_frozen RQ.out (rd (rd_L2 tos (q : Int)) (r : Int)).toNat
          have qo : wr.cell? ⟨w1.heap.size, 0, none⟩ = some (.slice (some ⟨gR, 0, none⟩) tos.length cR) := (blk_cell BKo.out 0).trans rfl
          have hcb := rd_countIn CQ.out (rd (rd_L2 tos (q : Int)) (r : Int))
          replace hcb : 0 ≤ rd (count1 (countAll (List.replicate tos.length 0) (tos.take q)) ((rd_L2 tos (q : Int)).take r)) (rd (rd_L2 tos (q : Int)) (r : Int)) ∧ rd (count1 (countAll (List.replicate tos.length 0) (tos.take q)) ((rd_L2 tos (q : Int)).take r)) (rd (rd_L2 tos (q : Int)) (r : Int)) + 1 ≤ 9223372036854775807 := by
            have h1 := hcb.1; have h2 := hcb.2; have h3 := HQT.out; have h4 := HLT.out; have h5 := HSZ.out; have h6 := HLl.out.1
            exact ⟨h1, by omega⟩
          obtain ⟨hcb0, hcb1⟩ := hcb
          clear hrt
          have HC0 := Aside0.mk hc0
          have HC1 := Aside0.mk hc1'
          go_wp2
          go_roundw
          case measure => have := HRT2.out; simp [intOf]; omega
          case rel =>
            refine ⟨r + 1, HRT2.out, by go_num, ⟨?_⟩, ⟨?_⟩, ⟨?_⟩, ⟨?_⟩, ⟨?_⟩⟩
            · have h := int_set RQ.out (rd (rd_L2 tos (q : Int)) (r : Int)).toNat (by have := HC0.out; have := HC1.out; omega) (rd (count1 (countAll (List.replicate tos.length 0) (tos.take q)) ((rd_L2 tos (q : Int)).take r)) (rd (rd_L2 tos (q : Int)) (r : Int)) + 1)
              rw [count1_step HRT2.out] at h
              exact h
            · have h := countIn_set CQ.out (rd (rd_L2 tos (q : Int)) (r : Int))
              rw [count1_step HRT2.out] at h
              exact h
            · exact (heap_setCell_other wr ⟨gR, (rd (rd_L2 tos (q : Int)) (r : Int)).toNat, none⟩ w.heap.size _ (by have := HGE.out; simp; omega)).trans BKg.out
            · exact (heap_setCell_other wr ⟨gR, (rd (rd_L2 tos (q : Int)) (r : Int)).toNat, none⟩ w1.heap.size _ (by have := HGL.out; simp; omega)).trans BKo.out
            · exact below_set HBq.out (by have := HGE.out; omega)
        · obtain rfl : r = (rd_L2 tos (q : Int)).length := by omega
          have hrtb : decide (((rd_L2 tos (q : Int)).length : Int) < ((rd_L2 tos (q : Int)).length : Int)) = false := decide_eq_false (by omega)
          clear hrt
          go_wp2
          go_roundw
          case measure => have := HQT.out; simp [intOf]; omega
          case rel => exact ⟨q + 1, HQT.out, by go_num, ⟨by have h := RQ.out; rw [List.take_of_length_le (Nat.le_refl _), countAll_step HQT.out] at h; exact h⟩, ⟨by
            have h := CQ.out; rw [List.take_of_length_le (Nat.le_refl _), countAll_step HQT.out] at h
            intro x hx; have h1 := h x hx; have h2 := HLl.out.1; omega⟩, BKg, BKo, HBq⟩
    · obtain rfl : q = tos.length := by omega
      have hltb : decide ((tos.length : Int) < (tos.length : Int)) = false := decide_eq_false (by omega)
      have RA := Aside0.mk (show (Kd.int .i64).R 3 wr w.heap.size (fun _ => True) (.slice (some ⟨gR, 0, none⟩) tos.length cR) (aheadL tos) by have h := RQ.out; rwa [List.take_of_length_le (Nat.le_refl _)] at h)
      obtain ⟨wp, rfl⟩ : ∃ wp : World, wp = wr := ⟨_, rfl⟩
      have HBp := HBq
      clear RQ CQ hlt HBq
      have z3 : wp.cell? ⟨w.heap.size, 3, none⟩ = some (.slice A3 l3.length c3) := (blk_cell BKg.out 3).trans rfl
      go_wp2_with (first
        | ((with_reducible refine gate_dst (N := 42) rfl ?_); refine Kd.R_make (Kd.int .i64) (w0 := w) w.heap.size 3 rfl rfl 22 _ _ rfl (tos.length : Int) rfl rfl Try.underlying22 (.int .i64 0) 8 hi3 rfl (by decide) (by decide) (0 : Int) (ok := fun k => wp.heap.size ≤ k) (okp := fun _ => False) rfl (fun _ h => h.elim) (Nat.le_refl _) (by omega) (by simp; have := HLT.out; have := HSZ.out; omega) HBp.out HBp.out.size ?_; intro v2 w2 hR2 hB2 hG2 hO2; rw [Int.toNat_natCast] at hR2; obtain ⟨gO, cO, hv, hgb, hgl, -⟩ := Kd.R_form hR2 (by rw [List.length_replicate]; have := HN.out; have := HLT.out; omega); rw [List.length_replicate] at hv; subst hv; have HGO := Aside0.mk (show wp.heap.size ≤ gO by obtain ⟨b, hb1, hb2⟩ := hO2; have : gO = b := (by simpa [Value.ownBlock] using hb1); omega); have BKg2 := Aside0.mk (blk_grown (row := none) BKg.out hG2 (by simp)); have BKo2 := Aside0.mk (blk_grown (row := none) BKo.out hG2 (by simp)); have RA2 := Aside0.mk (Kd.R_grown RA.out hG2 (fun _ _ => by simp)); have HB2 := Aside0.mk hB2; have RO := Aside0.mk hR2; have HGO2 := Aside0.mk hgl; clear hR2 hgb hgl hO2 hB2 hG2 z3; have z3 : w2.cell? ⟨w.heap.size, 3, none⟩ = some (.slice A3 l3.length c3) := (blk_cell BKg2.out 3).trans rfl)
        | fail)
      go_loopw [46] (fun v46 wr => ∃ q : Nat, q ≤ l3.length ∧ v46 = .int .i64 (q : Int) ∧ Aside0 ((Kd.int .i64).R 3 wr w.heap.size (fun k => wp.heap.size ≤ k) (.slice (some ⟨gO, 0, none⟩) tos.length cO) (filled (chainF l3 tos met) 0 (ints l3.length) q)) ∧ Aside0 (∀ k, k < w2.heap.size → k ≠ gO → wr.heap[k]? = w2.heap[k]?) ∧ Aside0 (w2.heap.size ≤ wr.heap.size) ∧ Aside0 (Below w.heap.size w wr)) (fun v46 _ => l3.length - (intOf v46).toNat)
      case atStart => exact ⟨0, Nat.zero_le _, rfl, ⟨by rw [filled_zero, length_ints, ← HLT.out]; exact RO.out⟩, ⟨fun _ _ _ => rfl⟩, ⟨Nat.le_refl _⟩, HB2⟩
      case round =>
        clear RO
        obtain ⟨q, hq, rfl, RQ, KQ, SQ, HBq⟩ := hrel
        have hq2 : (q : Int) + 1 ≤ 9223372036854775807 := by have := HSZ.out; omega
        by_cases hlt : q < l3.length
        · have HQL := Aside0.mk hlt
          have hltb : decide ((q : Int) < (l3.length : Int)) = true := decide_eq_true (by omega)
          have hlti : (q : Int) < (l3.length : Int) := by omega
          obtain ⟨ad, A0', c0', A8, c8, A9, c9, rfl, x0, x1, x2, x3, x4, x5, x6, x7, x8, x9, _, _, _, _, _, _⟩ := at_T77 HR3.out (q : Int) (by omega) hlti
          replace x0 := (HBq.out.cell (World.block_lt_of_cell? w _ x0)).trans x0
          replace x1 := (HBq.out.cell (World.block_lt_of_cell? w _ x1)).trans x1
          replace x2 := (HBq.out.cell (World.block_lt_of_cell? w _ x2)).trans x2
          replace x3 := (HBq.out.cell (World.block_lt_of_cell? w _ x3)).trans x3
          replace x4 := (HBq.out.cell (World.block_lt_of_cell? w _ x4)).trans x4
          replace x5 := (HBq.out.cell (World.block_lt_of_cell? w _ x5)).trans x5
          replace x6 := (HBq.out.cell (World.block_lt_of_cell? w _ x6)).trans x6
          replace x7 := (HBq.out.cell (World.block_lt_of_cell? w _ x7)).trans x7
          replace x8 := (HBq.out.cell (World.block_lt_of_cell? w _ x8)).trans x8
          replace x9 := (HBq.out.cell (World.block_lt_of_cell? w _ x9)).trans x9
          rw [Int.toNat_natCast] at x0 x1 x2 x3 x4 x5 x6 x7 x8 x9
          have hqn : q < tos.length := by have := HLT.out; omega
          have hqni : (q : Int) < (tos.length : Int) := by omega
          have qo := int_cell RQ.out q hqn
          have fo := row_frozen RQ.out q
          obtain ⟨adm, rfl, qm⟩ := Kd.at_int (Kd.C_below HRM.out HBq.out) (q : Int) (by omega) (by have := HLM.out; omega)
          rw [Int.toNat_natCast] at qm
          have hqm : (q : Int) < (met.length : Int) := by have := HLM.out; omega
          clear hlt
          go_upto_region 15 with (fail)
          have BKa := Aside0.mk (show ((wr.alloc (.cells #[.int .i64 (q : Int)] 3)).alloc (.cells #[.slice A0' (rd_T77 l3 (q : Int)).f0.length c0', .int .i64 (rd_T77 l3 (q : Int)).f1.f0, .int .i64 (rd_T77 l3 (q : Int)).f1.f1, .int .i64 (rd_T77 l3 (q : Int)).f1.f2, .int .i64 (rd_T77 l3 (q : Int)).f1.f3, .int .u32 (rd_T77 l3 (q : Int)).f1.f4, .int .i64 (rd_T77 l3 (q : Int)).f1.f5, .int .i64 (rd_T77 l3 (q : Int)).f1.f6, .slice A8 (rd_T77 l3 (q : Int)).f1.f7.length c8, .slice A9 (rd_T77 l3 (q : Int)).f1.f8.length c9] 77)).heap[wr.heap.size]? = some (.cells #[.int .i64 (q : Int)] 3 (0, 0)) from heap_alloc2_old wr _ _)
          have BKb := Aside0.mk (show ((wr.alloc (.cells #[.int .i64 (q : Int)] 3)).alloc (.cells #[.slice A0' (rd_T77 l3 (q : Int)).f0.length c0', .int .i64 (rd_T77 l3 (q : Int)).f1.f0, .int .i64 (rd_T77 l3 (q : Int)).f1.f1, .int .i64 (rd_T77 l3 (q : Int)).f1.f2, .int .i64 (rd_T77 l3 (q : Int)).f1.f3, .int .u32 (rd_T77 l3 (q : Int)).f1.f4, .int .i64 (rd_T77 l3 (q : Int)).f1.f5, .int .i64 (rd_T77 l3 (q : Int)).f1.f6, .slice A8 (rd_T77 l3 (q : Int)).f1.f7.length c8, .slice A9 (rd_T77 l3 (q : Int)).f1.f8.length c9] 77)).heap[wr.heap.size + 1]? = some (.cells #[.slice A0' (rd_T77 l3 (q : Int)).f0.length c0', .int .i64 (rd_T77 l3 (q : Int)).f1.f0, .int .i64 (rd_T77 l3 (q : Int)).f1.f1, .int .i64 (rd_T77 l3 (q : Int)).f1.f2, .int .i64 (rd_T77 l3 (q : Int)).f1.f3, .int .u32 (rd_T77 l3 (q : Int)).f1.f4, .int .i64 (rd_T77 l3 (q : Int)).f1.f5, .int .i64 (rd_T77 l3 (q : Int)).f1.f6, .slice A8 (rd_T77 l3 (q : Int)).f1.f7.length c8, .slice A9 (rd_T77 l3 (q : Int)).f1.f8.length c9] 77 (0, 0)) from heap_alloc2_new wr _ _)
          have HBW := Aside0.mk (below_alloc (below_alloc (Below.refl wr.heap.size wr) (.cells #[.int .i64 (q : Int)] 3)) (.cells #[.slice A0' (rd_T77 l3 (q : Int)).f0.length c0', .int .i64 (rd_T77 l3 (q : Int)).f1.f0, .int .i64 (rd_T77 l3 (q : Int)).f1.f1, .int .i64 (rd_T77 l3 (q : Int)).f1.f2, .int .i64 (rd_T77 l3 (q : Int)).f1.f3, .int .u32 (rd_T77 l3 (q : Int)).f1.f4, .int .i64 (rd_T77 l3 (q : Int)).f1.f5, .int .i64 (rd_T77 l3 (q : Int)).f1.f6, .slice A8 (rd_T77 l3 (q : Int)).f1.f7.length c8, .slice A9 (rd_T77 l3 (q : Int)).f1.f8.length c9] 77))
          generalize (wr.alloc (.cells #[.int .i64 (q : Int)] 3)).alloc (.cells #[.slice A0' (rd_T77 l3 (q : Int)).f0.length c0', .int .i64 (rd_T77 l3 (q : Int)).f1.f0, .int .i64 (rd_T77 l3 (q : Int)).f1.f1, .int .i64 (rd_T77 l3 (q : Int)).f1.f2, .int .i64 (rd_T77 l3 (q : Int)).f1.f3, .int .u32 (rd_T77 l3 (q : Int)).f1.f4, .int .i64 (rd_T77 l3 (q : Int)).f1.f5, .int .i64 (rd_T77 l3 (q : Int)).f1.f6, .slice A8 (rd_T77 l3 (q : Int)).f1.f7.length c8, .slice A9 (rd_T77 l3 (q : Int)).f1.f8.length c9] 77) = W3 at BKa BKb HBW ⊢
          have RQ3 := Aside0.mk (Kd.R_below RQ.out HBW.out)
          have KQ3 := Aside0.mk (show ∀ k, k < w2.heap.size → k ≠ gO → W3.heap[k]? = w2.heap[k]? from fun k h1 h2 => (HBW.out.block k (Nat.lt_of_lt_of_le h1 SQ.out)).trans (KQ.out k h1 h2))
          have SQ3 := Aside0.mk (Nat.le_trans SQ.out HBW.out.size)
          have HB3 := Aside0.mk (below_then HBq.out HBq.out.size HBW.out)
          have HGOw := Aside0.mk (Nat.lt_of_lt_of_le HGO2.out SQ.out)
          have HSwr := Aside0.mk (show w2.heap.size ≤ wr.heap.size from SQ.out)
          have HQN := Aside0.mk hqn
          clear qo fo RQ KQ SQ HBq HBW x0 x1 x2 x3 x4 x5 x6 x7 x8 x9 qm
          have qo := int_cell RQ3.out q HQN.out
          have fo := row_frozen RQ3.out q
          have qa : W3.cell? ⟨wr.heap.size, 0, none⟩ = some (.int .i64 (q : Int)) := (blk_cell BKa.out 0).trans rfl
          go_upto_region 16 with (fail)
          have RQ4 := Aside0.mk (int_set RQ3.out q HQN.out (-1))
          have BKa4 := Aside0.mk ((heap_setCell_other W3 ⟨gO, q, none⟩ wr.heap.size (.int .i64 (-1)) (by have := HGOw.out; simp; omega)).trans BKa.out)
          have BKb4 := Aside0.mk ((heap_setCell_other W3 ⟨gO, q, none⟩ (wr.heap.size + 1) (.int .i64 (-1)) (by have := HGOw.out; simp; omega)).trans BKb.out)
          have KQ4 := Aside0.mk (show ∀ k, k < w2.heap.size → k ≠ gO → (W3.setCell ⟨gO, q, none⟩ (.int .i64 (-1))).heap[k]? = w2.heap[k]? from fun k h1 h2 => (heap_setCell_other W3 ⟨gO, q, none⟩ k _ (by simpa using h2)).trans (KQ3.out k h1 h2))
          have SQ4 := Aside0.mk (show w2.heap.size ≤ (W3.setCell ⟨gO, q, none⟩ (.int .i64 (-1))).heap.size by rw [size_setCell0]; exact SQ3.out)
          have HB4 := Aside0.mk (below_set (g := gO) (j := q) (v := .int .i64 (-1)) HB3.out (by have h1 := HGO.out; have h2 := HBp.out.size; omega))
          generalize W3.setCell ⟨gO, q, none⟩ (.int .i64 (-1)) = W4 at RQ4 BKa4 BKb4 KQ4 SQ4 HB4 ⊢
          clear qo fo qa RQ3 KQ3 SQ3 HB3 BKa BKb
          obtain ⟨adm2, e2, qm⟩ := Kd.at_int (Kd.C_below HRM.out HB4.out) (q : Int) (by omega) hqm
          obtain rfl : adm = adm2 := by injection e2
          rw [Int.toNat_natCast] at qm
          have qa : W4.cell? ⟨wr.heap.size, 0, none⟩ = some (.int .i64 (q : Int)) := (blk_cell BKa4.out 0).trans rfl
          clear e2
          by_cases hm : rd met (q : Int) < 0
          · have hmb : decide (rd met (q : Int) < 0) = true := decide_eq_true hm
            have HF := Aside0.mk (show chainF l3 tos met (q : Int) = -1 by unfold chainF chainAt; rw [if_pos hm])
            clear hm
            go_wp2
            go_roundw
            case measure => have := HQL.out; simp [intOf]; omega
            case rel =>
              exact ⟨q + 1, HQL.out, by go_num, ⟨fillq HQN.out (-1) (by exact HF.out) RQ4.out HQL.out⟩, KQ4, SQ4, HB4⟩
          · have hmb : decide (rd met (q : Int) < 0) = false := decide_eq_false hm
            have HM := Aside0.mk hm
            clear hm
            have hmf : ∀ (fn : Fn) (first cap : Array Value) (w : World), (Instr.makeFunc fn first cap).run Try.prog w = .ok (.func fn first cap) w := fun _ _ _ _ => rfl
            have yb : ∀ j u, (#[.slice A0' (rd_T77 l3 (q : Int)).f0.length c0', .int .i64 (rd_T77 l3 (q : Int)).f1.f0, .int .i64 (rd_T77 l3 (q : Int)).f1.f1, .int .i64 (rd_T77 l3 (q : Int)).f1.f2, .int .i64 (rd_T77 l3 (q : Int)).f1.f3, .int .u32 (rd_T77 l3 (q : Int)).f1.f4, .int .i64 (rd_T77 l3 (q : Int)).f1.f5, .int .i64 (rd_T77 l3 (q : Int)).f1.f6, .slice A8 (rd_T77 l3 (q : Int)).f1.f7.length c8, .slice A9 (rd_T77 l3 (q : Int)).f1.f8.length c9])[j]? = some u → W4.cell? ⟨wr.heap.size + 1, j, none⟩ = some u := fun j u hu => (blk_cell BKb4.out j).trans hu
            have y1 := yb 1 _ rfl
            have y2 := yb 2 _ rfl
            have y3 := yb 3 _ rfl
            have y4 := yb 4 _ rfl
            have y5 := yb 5 _ rfl
            have y6 := yb 6 _ rfl
            have y7 := yb 7 _ rfl
            have y8 := yb 8 _ rfl
            have y9 := yb 9 _ rfl
            clear yb
            go_upto_region 19 with (fail)
            have BKe := Aside0.mk (show (W4.alloc (.cells #[.int .i64 (rd_T77 l3 (q : Int)).f1.f0, .int .i64 (rd_T77 l3 (q : Int)).f1.f1, .int .i64 (rd_T77 l3 (q : Int)).f1.f2, .int .i64 (rd_T77 l3 (q : Int)).f1.f3, .int .u32 (rd_T77 l3 (q : Int)).f1.f4, .int .i64 (rd_T77 l3 (q : Int)).f1.f5, .int .i64 (rd_T77 l3 (q : Int)).f1.f6, .slice A8 (rd_T77 l3 (q : Int)).f1.f7.length c8, .slice A9 (rd_T77 l3 (q : Int)).f1.f8.length c9] 74)).heap[W4.heap.size]? = some (.cells #[.int .i64 (rd_T77 l3 (q : Int)).f1.f0, .int .i64 (rd_T77 l3 (q : Int)).f1.f1, .int .i64 (rd_T77 l3 (q : Int)).f1.f2, .int .i64 (rd_T77 l3 (q : Int)).f1.f3, .int .u32 (rd_T77 l3 (q : Int)).f1.f4, .int .i64 (rd_T77 l3 (q : Int)).f1.f5, .int .i64 (rd_T77 l3 (q : Int)).f1.f6, .slice A8 (rd_T77 l3 (q : Int)).f1.f7.length c8, .slice A9 (rd_T77 l3 (q : Int)).f1.f8.length c9] 74 (0, 0)) from heap_alloc_new W4 _)
            have BKa5 := Aside0.mk (blk_alloc BKa4.out (.cells #[.int .i64 (rd_T77 l3 (q : Int)).f1.f0, .int .i64 (rd_T77 l3 (q : Int)).f1.f1, .int .i64 (rd_T77 l3 (q : Int)).f1.f2, .int .i64 (rd_T77 l3 (q : Int)).f1.f3, .int .u32 (rd_T77 l3 (q : Int)).f1.f4, .int .i64 (rd_T77 l3 (q : Int)).f1.f5, .int .i64 (rd_T77 l3 (q : Int)).f1.f6, .slice A8 (rd_T77 l3 (q : Int)).f1.f7.length c8, .slice A9 (rd_T77 l3 (q : Int)).f1.f8.length c9] 74))
            have RQ5 := Aside0.mk (Kd.R_alloc RQ4.out (.cells #[.int .i64 (rd_T77 l3 (q : Int)).f1.f0, .int .i64 (rd_T77 l3 (q : Int)).f1.f1, .int .i64 (rd_T77 l3 (q : Int)).f1.f2, .int .i64 (rd_T77 l3 (q : Int)).f1.f3, .int .u32 (rd_T77 l3 (q : Int)).f1.f4, .int .i64 (rd_T77 l3 (q : Int)).f1.f5, .int .i64 (rd_T77 l3 (q : Int)).f1.f6, .slice A8 (rd_T77 l3 (q : Int)).f1.f7.length c8, .slice A9 (rd_T77 l3 (q : Int)).f1.f8.length c9] 74))
            have KQ5 := Aside0.mk (show ∀ k, k < w2.heap.size → k ≠ gO → (W4.alloc (.cells #[.int .i64 (rd_T77 l3 (q : Int)).f1.f0, .int .i64 (rd_T77 l3 (q : Int)).f1.f1, .int .i64 (rd_T77 l3 (q : Int)).f1.f2, .int .i64 (rd_T77 l3 (q : Int)).f1.f3, .int .u32 (rd_T77 l3 (q : Int)).f1.f4, .int .i64 (rd_T77 l3 (q : Int)).f1.f5, .int .i64 (rd_T77 l3 (q : Int)).f1.f6, .slice A8 (rd_T77 l3 (q : Int)).f1.f7.length c8, .slice A9 (rd_T77 l3 (q : Int)).f1.f8.length c9] 74)).heap[k]? = w2.heap[k]? from fun k h1 h2 => (heap_alloc_old W4 _ (Nat.lt_of_lt_of_le h1 SQ4.out)).trans (KQ4.out k h1 h2))
            have SQ5 := Aside0.mk (show w2.heap.size ≤ (W4.alloc (.cells #[.int .i64 (rd_T77 l3 (q : Int)).f1.f0, .int .i64 (rd_T77 l3 (q : Int)).f1.f1, .int .i64 (rd_T77 l3 (q : Int)).f1.f2, .int .i64 (rd_T77 l3 (q : Int)).f1.f3, .int .u32 (rd_T77 l3 (q : Int)).f1.f4, .int .i64 (rd_T77 l3 (q : Int)).f1.f5, .int .i64 (rd_T77 l3 (q : Int)).f1.f6, .slice A8 (rd_T77 l3 (q : Int)).f1.f7.length c8, .slice A9 (rd_T77 l3 (q : Int)).f1.f8.length c9] 74)).heap.size by rw [World.size_alloc]; have := SQ4.out; omega)
            have HB5 := Aside0.mk (below_alloc HB4.out (.cells #[.int .i64 (rd_T77 l3 (q : Int)).f1.f0, .int .i64 (rd_T77 l3 (q : Int)).f1.f1, .int .i64 (rd_T77 l3 (q : Int)).f1.f2, .int .i64 (rd_T77 l3 (q : Int)).f1.f3, .int .u32 (rd_T77 l3 (q : Int)).f1.f4, .int .i64 (rd_T77 l3 (q : Int)).f1.f5, .int .i64 (rd_T77 l3 (q : Int)).f1.f6, .slice A8 (rd_T77 l3 (q : Int)).f1.f7.length c8, .slice A9 (rd_T77 l3 (q : Int)).f1.f8.length c9] 74))
            generalize W4.alloc (.cells #[.int .i64 (rd_T77 l3 (q : Int)).f1.f0, .int .i64 (rd_T77 l3 (q : Int)).f1.f1, .int .i64 (rd_T77 l3 (q : Int)).f1.f2, .int .i64 (rd_T77 l3 (q : Int)).f1.f3, .int .u32 (rd_T77 l3 (q : Int)).f1.f4, .int .i64 (rd_T77 l3 (q : Int)).f1.f5, .int .i64 (rd_T77 l3 (q : Int)).f1.f6, .slice A8 (rd_T77 l3 (q : Int)).f1.f7.length c8, .slice A9 (rd_T77 l3 (q : Int)).f1.f8.length c9] 74) = W5 at BKe BKa5 RQ5 KQ5 SQ5 HB5 ⊢
            clear y1 y2 y3 y4 y5 y6 y7 y8 y9 qa qm
            have qa : W5.cell? ⟨wr.heap.size, 0, none⟩ = some (.int .i64 (q : Int)) := (blk_cell BKa5.out 0).trans rfl
            have e0 : W5.cell? ⟨W4.heap.size, 0, none⟩ = some (.int .i64 (rd_T77 l3 (q : Int)).f1.f0) := (blk_cell BKe.out 0).trans rfl
            have e5 : W5.cell? ⟨W4.heap.size, 5, none⟩ = some (.int .i64 (rd_T77 l3 (q : Int)).f1.f5) := (blk_cell BKe.out 5).trans rfl
            have e6 : W5.cell? ⟨W4.heap.size, 6, none⟩ = some (.int .i64 (rd_T77 l3 (q : Int)).f1.f6) := (blk_cell BKe.out 6).trans rfl
            have qo : W5.cell? ⟨gO, q, none⟩ = some _ := int_cell RQ5.out q HQN.out
            have fo := row_frozen RQ5.out q
            have HGRl := Aside0.mk (show gR < w2.heap.size ∧ gR ≠ gO by have h1 := HGL.out; have h2 := blk_lt BKo.out; have h3 := HGO.out; have h4 := HGO2.out; omega)
            have RA5 := Aside0.mk (Kd.R_move (w1 := W5) (int_own RA2.out) (fun k hk => by subst hk; exact KQ5.out _ HGRl.out.1 HGRl.out.2))
            have qh : W5.cell? ⟨w1.heap.size, 0, none⟩ = some (.slice (some ⟨gR, 0, none⟩) tos.length cR) := by
              have h1 := KQ5.out w1.heap.size (by have h2 := blk_lt BKo.out; have h3 := HGO.out; have h4 := HGO2.out; omega) (by have h2 := blk_lt BKo.out; have h3 := HGO.out; omega)
              exact (blk_cell (h1.trans BKo2.out) 0).trans rfl
            have HOKB := Aside0.mk (HOK.out _ (rdB_mem (show inL l3.length (q : Int) from ⟨by omega, hlti⟩)))
            have HALL := Aside0.mk (show ∀ c, inL l3.length c → Calls Try.prog 62 #[.int .i64 c, .pointer (some ⟨wr.heap.size, 0, none⟩), .pointer (some ⟨w1.heap.size, 0, none⟩)] W5 fun e w' => e = .returned (.bool (aloneB (aheadL tos) (q : Int) c)) ∧ W5 = w' from fun c hc =>
              alone.calls wr.heap.size w1.heap.size gR tos.length cR (q : Int) c (aheadL tos) W5 qa qh hc.1 (by have := hc.2; have := HLT.out; omega) (int_cell RA5.out c.toNat (by have h1 := hc.1; have h2 := hc.2; have := HLT.out; omega)))
            clear qh
            by_cases k1 : (rd_T77 l3 (q : Int)).f1.f0 = 1
            · have k1b : ((rd_T77 l3 (q : Int)).f1.f0 == 1) = true := by simp [k1]
              have k2b : ((rd_T77 l3 (q : Int)).f1.f0 == 2) = false := by simp [k1]
              have HC := HALL.out (rd_T77 l3 (q : Int)).f1.f5 (HOKB.out _ (by unfold targetsOf; rw [if_neg (by omega), if_neg (by omega), if_neg (by omega), if_pos k1]; exact List.mem_cons_self))
              by_cases a1 : aloneB (aheadL tos) (q : Int) (rd_T77 l3 (q : Int)).f1.f5 = true
              · rw [a1] at HC
                have HF := Aside0.mk (show chainF l3 tos met (q : Int) = (rd_T77 l3 (q : Int)).f1.f5 by unfold chainF chainAt; rw [if_neg HM.out, if_pos ⟨k1, a1⟩])
                have HC1 := Aside0.mk HC
                clear HC a1 k1
                go_wp2_with (go_at_call 62; refine (HC1.out).mono ?_; rintro e w' ⟨rfl, rfl⟩)
                go_roundw
                case measure => have := HQL.out; simp [intOf]; omega
                case rel =>
                  exact ⟨q + 1, HQL.out, by go_num, ⟨fillq HQN.out ((rd_T77 l3 (q : Int)).f1.f5) (by exact HF.out) (by have h := int_set RQ5.out q HQN.out ((rd_T77 l3 (q : Int)).f1.f5); rwa [List.set_set] at h) HQL.out⟩, ⟨fun k h1 h2 => (heap_setCell_other W5 ⟨gO, q, none⟩ k _ (by simpa using h2)).trans (KQ5.out k h1 h2)⟩, ⟨by rw [size_setCell0]; exact SQ5.out⟩, ⟨below_set HB5.out (Nat.le_trans HBp.out.size HGO.out)⟩⟩
              · have a1' : aloneB (aheadL tos) (q : Int) (rd_T77 l3 (q : Int)).f1.f5 = false := by simpa using a1
                rw [a1'] at HC
                have HF := Aside0.mk (show chainF l3 tos met (q : Int) = -1 by unfold chainF chainAt; rw [if_neg HM.out, if_neg (fun h => a1 h.2), if_neg (fun h => by have := h.1; omega), if_neg (fun h => by have := h.1; omega)])
                have HC1 := Aside0.mk HC
                clear HC a1 a1' k1
                go_wp2_with (go_at_call 62; refine (HC1.out).mono ?_; rintro e w' ⟨rfl, rfl⟩)
                go_roundw
                case measure => have := HQL.out; simp [intOf]; omega
                case rel =>
                  exact ⟨q + 1, HQL.out, by go_num, ⟨fillq HQN.out (-1) (by exact HF.out) RQ5.out HQL.out⟩, KQ5, SQ5, HB5⟩
            · have k1b : ((rd_T77 l3 (q : Int)).f1.f0 == 1) = false := by simp [k1]
              by_cases k2 : (rd_T77 l3 (q : Int)).f1.f0 = 2
              · have k2b : ((rd_T77 l3 (q : Int)).f1.f0 == 2) = true := by simp [k2]
                have HC := HALL.out (rd_T77 l3 (q : Int)).f1.f6 (HOKB.out _ (by unfold targetsOf; rw [if_pos k2]; exact List.mem_cons_of_mem _ List.mem_cons_self))
                have HD := HALL.out (rd_T77 l3 (q : Int)).f1.f5 (HOKB.out _ (by unfold targetsOf; rw [if_pos k2]; exact List.mem_cons_self))
                by_cases a1 : aloneB (aheadL tos) (q : Int) (rd_T77 l3 (q : Int)).f1.f6 = true
                · rw [a1] at HC
                  have HF := Aside0.mk (show chainF l3 tos met (q : Int) = (rd_T77 l3 (q : Int)).f1.f6 by unfold chainF chainAt; rw [if_neg HM.out, if_neg (fun h => k1 h.1), if_pos ⟨k2, a1⟩])
                  have HC1 := Aside0.mk HC
                  clear HC HD a1 k1 k2
                  go_wp2_with (go_at_call 62; refine (HC1.out).mono ?_; rintro e w' ⟨rfl, rfl⟩)
                  go_roundw
                  case measure => have := HQL.out; simp [intOf]; omega
                  case rel =>
                    exact ⟨q + 1, HQL.out, by go_num, ⟨fillq HQN.out ((rd_T77 l3 (q : Int)).f1.f6) (by exact HF.out) (by have h := int_set RQ5.out q HQN.out ((rd_T77 l3 (q : Int)).f1.f6); rwa [List.set_set] at h) HQL.out⟩, ⟨fun k h1 h2 => (heap_setCell_other W5 ⟨gO, q, none⟩ k _ (by simpa using h2)).trans (KQ5.out k h1 h2)⟩, ⟨by rw [size_setCell0]; exact SQ5.out⟩, ⟨below_set HB5.out (Nat.le_trans HBp.out.size HGO.out)⟩⟩
                · have a1' : aloneB (aheadL tos) (q : Int) (rd_T77 l3 (q : Int)).f1.f6 = false := by simpa using a1
                  rw [a1'] at HC
                  have HC1 := Aside0.mk HC
                  by_cases a2 : aloneB (aheadL tos) (q : Int) (rd_T77 l3 (q : Int)).f1.f5 = true
                  · rw [a2] at HD
                    have HF := Aside0.mk (show chainF l3 tos met (q : Int) = (rd_T77 l3 (q : Int)).f1.f5 by unfold chainF chainAt; rw [if_neg HM.out, if_neg (fun h => k1 h.1), if_neg (fun h => a1 h.2), if_pos ⟨k2, a2⟩])
                    have HD1 := Aside0.mk HD
                    clear HC HD a1 a1' a2 k1 k2
                    go_wp2_with (go_at_call 62; first | ((with_reducible refine (HC1.out).mono ?_); rintro e w' ⟨rfl, rfl⟩) | ((with_reducible refine (HD1.out).mono ?_); rintro e w' ⟨rfl, rfl⟩))
                    go_roundw
                    case measure => have := HQL.out; simp [intOf]; omega
                    case rel =>
                      exact ⟨q + 1, HQL.out, by go_num, ⟨fillq HQN.out ((rd_T77 l3 (q : Int)).f1.f5) (by exact HF.out) (by have h := int_set RQ5.out q HQN.out ((rd_T77 l3 (q : Int)).f1.f5); rwa [List.set_set] at h) HQL.out⟩, ⟨fun k h1 h2 => (heap_setCell_other W5 ⟨gO, q, none⟩ k _ (by simpa using h2)).trans (KQ5.out k h1 h2)⟩, ⟨by rw [size_setCell0]; exact SQ5.out⟩, ⟨below_set HB5.out (Nat.le_trans HBp.out.size HGO.out)⟩⟩
                  · have a2' : aloneB (aheadL tos) (q : Int) (rd_T77 l3 (q : Int)).f1.f5 = false := by simpa using a2
                    rw [a2'] at HD
                    have HF := Aside0.mk (show chainF l3 tos met (q : Int) = -1 by unfold chainF chainAt; rw [if_neg HM.out, if_neg (fun h => k1 h.1), if_neg (fun h => a1 h.2), if_neg (fun h => a2 h.2)])
                    have HD1 := Aside0.mk HD
                    clear HC HD a1 a1' a2 a2' k1 k2
                    go_wp2_with (go_at_call 62; first | ((with_reducible refine (HC1.out).mono ?_); rintro e w' ⟨rfl, rfl⟩) | ((with_reducible refine (HD1.out).mono ?_); rintro e w' ⟨rfl, rfl⟩))
                    go_roundw
                    case measure => have := HQL.out; simp [intOf]; omega
                    case rel =>
                      exact ⟨q + 1, HQL.out, by go_num, ⟨fillq HQN.out (-1) (by exact HF.out) RQ5.out HQL.out⟩, KQ5, SQ5, HB5⟩
              · have k2b : ((rd_T77 l3 (q : Int)).f1.f0 == 2) = false := by simp [k2]
                have HF := Aside0.mk (show chainF l3 tos met (q : Int) = -1 by unfold chainF chainAt; rw [if_neg HM.out, if_neg (fun h => k1 h.1), if_neg (fun h => k2 h.1), if_neg (fun h => k2 h.1)])
                clear k1 k2
                go_wp2
                go_roundw
                case measure => have := HQL.out; simp [intOf]; omega
                case rel =>
                  exact ⟨q + 1, HQL.out, by go_num, ⟨fillq HQN.out (-1) (by exact HF.out) RQ5.out HQL.out⟩, KQ5, SQ5, HB5⟩
        · obtain rfl : q = l3.length := by omega
          have hltb : decide ((l3.length : Int) < (l3.length : Int)) = false := decide_eq_false (by omega)
          clear hlt
          go_wp2
          go_ret
          refine ⟨_, rfl, ?_, HBq.out⟩
          have h := Kd.R_mono RQ.out (ok' := fun _ => True) (fun _ _ => trivial)
          have hl : l3.length = (ints l3.length).length := (length_ints _).symm
          rw [show filled (chainF l3 tos met) 0 (ints l3.length) l3.length = (ints l3.length).map (chainF l3 tos met) by conv => lhs; rw [show filled (chainF l3 tos met) 0 (ints l3.length) l3.length = filled (chainF l3 tos met) 0 (ints l3.length) (ints l3.length).length by rw [length_ints]]; rw [filled_all]] at h
          exact h
end Go.Proofs.Ytocdebfbpfmnnaa.Pr
