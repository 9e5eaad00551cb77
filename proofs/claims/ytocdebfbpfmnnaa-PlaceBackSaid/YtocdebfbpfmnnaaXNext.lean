/- graph.Next: the blocks to which one may go, rising, each once. -/
import Derived.Test.YtocdebfbpfmnnaaPr0
import Derived.Test.YtocdebfbpfmnnaaXPlain
import Derived.Maps.OwnOps
import Derived.Test.YtocdebfbpfmnnaaXNextKeys
namespace Go.Proofs.Ytocdebfbpfmnnaa.Pr
open Go.RowKit Go.Maps Go.Proofs.YtocdebfbpfmnnaaW.PrintWords Go.Proofs.YtocdebfbpfmnnaaW.PrintLast Go.Proofs.YtocdebfbpfmnnaaW.PrintMore
set_option linter.unusedVariables false
set_option linter.unusedSimpArgs false

/-- Where an end may go, in the order in which the text comes to them. -/
def targetsOf (e : S74) : List Int :=
  if e.f0 = 2 then [e.f5, e.f6] else if e.f0 = 3 then e.f5 :: (e.f7.map (·.f1)).reverse else if e.f0 = 4 then e.f5 :: e.f8.reverse else if e.f0 = 1 then [e.f5] else []
def okTargets (e : S74) : Prop := (∀ x ∈ targetsOf e, wf64 x) ∧ (targetsOf e).length * 8 ≤ 140737488355328
instance (e : S74) : Decidable (okTargets e) := by unfold okTargets; exact inferInstance
def graph_Next.f (_l0_0 : List Int) (_a0_1 : Int) (_l0_2 : List S79) (l0_3 : List S77) (a1 : Int) : Option (List Int) :=
  if 0 ≤ a1 ∧ a1 < (l0_3.length : Int) then (if okTargets (rd_T77 l0_3 a1).f1 then some (nextL (targetsOf (rd_T77 l0_3 a1).f1)) else none) else some []

theorem nextL_nil : nextL [] = [] := by simp [nextL, dedup]
theorem cell_grown1 {w w1 : World} {row : Option Nat} {p : Addr} (h : w.grownBy w1 row) (hp : p.block < w.heap.size) (hne : some p.block ≠ row) : w1.cell? p = w.cell? p := by
  simp only [World.cell?, h.block p.block hp hne]
set_option maxHeartbeats 800000 in
set_option maxRecDepth 100000 in
theorem graph_Next.calls (A0_0 : Option Addr) (c0_0 : Nat) (l0_0 : List Int) (a0_1 : Int) (A0_2 : Option Addr) (c0_2 : Nat) (l0_2 : List (S79)) (A0_3 : Option Addr) (c0_3 : Nat) (l0_3 : List (S77)) (a1 : Int) (r : List Int) (w : World) (hr0_0 : Kd.C (Kd.int .i64) w A0_0 l0_0.length l0_0) (hc0_0 : l0_0.length ≤ c0_0) (hr0_2 : Kd.C k79 w A0_2 l0_2.length l0_2) (hc0_2 : l0_2.length ≤ c0_2) (hr0_3 : Kd.C k77 w A0_3 l0_3.length l0_3) (hc0_3 : l0_3.length ≤ c0_3) (h : graph_Next.f l0_0 a0_1 l0_2 l0_3 a1 = some r) :
    Calls Try.prog 54 #[.agg #[.slice A0_0 l0_0.length c0_0, .int .i64 a0_1, .slice A0_2 l0_2.length c0_2, .slice A0_3 l0_3.length c0_3], .int .i64 a1] w fun e w' => ∃ v0_ : Value, e = .returned (v0_) ∧ Kd.R (Kd.int .i64) 3 w' w.heap.size (fun _ => True) v0_ r ∧ Below w.heap.size w w' := by
  have HR0_3 := Aside0.mk hr0_3
  clear hr0_0 hc0_0 hr0_2 hc0_2 hr0_3 hc0_3
  unfold graph_Next.f at h
  by_cases hb : 0 ≤ a1 ∧ a1 < (l0_3.length : Int)
  · rw [if_pos hb] at h
    by_cases hok : okTargets (rd_T77 l0_3 a1).f1
    · rw [if_pos hok] at h
      have H := Aside0.mk (Option.some.inj h)
      clear h
      have hmm := @run_makeMap Try.prog
      obtain ⟨p1, q1⟩ := hb
      obtain ⟨ad, A0, c0, A8, c8, A9, c9, e1, x0, x1, x2, x3, x4, x5, x6, x7, x8, x9, l0, g0, l8, g8, l9, g9⟩ := at_T77 HR0_3.out a1 p1 q1
      subst e1
      have G8 := Aside0.mk g8
      have G9 := Aside0.mk g9
      have HOK := Aside0.mk hok
      clear g0 g8 g9 l0 l8 l9 hok
      have c0b : decide (0 ≤ a1) = true := decide_eq_true p1
      have c1b : decide (a1 < (l0_3.length : Int)) = true := decide_eq_true q1
      have hd := World.block_lt_of_cell? w _ x1
      by_cases k2 : (rd_T77 l0_3 a1).f1.f0 = 2
      · have k2b : ((rd_T77 l0_3 a1).f1.f0 == 2) = true := beq_iff_eq.mpr k2
        have HT := Aside0.mk (show targetsOf (rd_T77 l0_3 a1).f1 = [(rd_T77 l0_3 a1).f1.f5, (rd_T77 l0_3 a1).f1.f6] by rw [targetsOf, if_pos k2])
        have HW5 := Aside0.mk (HOK.out.1 (rd_T77 l0_3 a1).f1.f5 (by rw [HT.out]; simp))
        have HWK := Aside0.mk (HOK.out.1 (rd_T77 l0_3 a1).f1.f6 (by rw [HT.out]; simp))
        clear k2
        go_enter Try.func54, Try.ntmps54
        go_wp2_with (first
          | (at_lookup; refine tos_lookup rfl _ _ rfl _ _ _ rfl (by first | exact HM.out | exact Tos.alloc HM.out _ | exact Tos.made' (by simp)) _ rfl (by first | exact HWK.out | exact HW5.out) ?_; intro cc)
          | (at_mapUpdate; refine tos_update rfl _ _ _ rfl _ _ _ rfl (by first | exact HM.out | exact Tos.alloc HM.out _ | exact Tos.made' (by simp)) (by omega) _ rfl (by first | exact HWK.out | exact HW5.out) _ rfl ?_; intro w1 hm1 hg1; have HM := Aside0.mk hm1; clear hm1; first | (have HG := Aside0.mk (HB.out.grown hg1 HB.out.size (fun k e => by cases e; first | omega | (simp <;> omega))); clear HB; have HB := HG; clear HG) | (have HG := Aside0.mk ((below_alloc HB.out _).grown hg1 (below_alloc HB.out _).size (fun k e => by cases e; first | omega | (simp <;> omega))); clear HB; have HB := HG; clear HG) | (have HB := Aside0.mk ((below_alloc (below_alloc (below_alloc (Below.refl w.heap.size w) _) _) _).grown hg1 (by first | omega | (simp <;> omega)) (fun k e => by cases e; first | omega | (simp <;> omega)))); try (have z5 : w1.cell? ⟨w.heap.size + 1, 5, none⟩ = some (.int .i64 (rd_T77 l0_3 a1).f1.f5) := (cell_grown1 hg1 (by simp) (by simp)).trans (by go_simp)))
          | (go_at_call 91; refine (keys_calls _ _).mono ?_; rintro e w' ⟨rfl, rfl⟩)
          | (go_at_call 90; refine (sorted_calls _ _ _ _ HM.out (by first | (rw [← HT.out]; exact HOK.out.2) | exact HOK.out.2) _ rfl).mono ?_; rintro e w' ⟨v, rfl, hR, hB⟩; have HR := Aside0.mk hR; have HB2 := Aside0.mk hB; clear hR hB)
          | go_in)
        go_ret
        exact ⟨_, rfl, by rw [← H.out, HT.out]; exact Kd.R_lower HR.out (by have := HB.out.size; omega), HB.out.trans (HB2.out.mono HB.out.size)⟩

      by_cases k1 : (rd_T77 l0_3 a1).f1.f0 = 1
      · have k2b : ((rd_T77 l0_3 a1).f1.f0 == 2) = false := beq_eq_false_iff_ne.mpr k2
        have k3b : ((rd_T77 l0_3 a1).f1.f0 == 3) = false := beq_eq_false_iff_ne.mpr (by omega)
        have k4b : ((rd_T77 l0_3 a1).f1.f0 == 4) = false := beq_eq_false_iff_ne.mpr (by omega)
        have k1b : ((rd_T77 l0_3 a1).f1.f0 == 1) = true := beq_iff_eq.mpr k1
        have HT := Aside0.mk (show targetsOf (rd_T77 l0_3 a1).f1 = [(rd_T77 l0_3 a1).f1.f5] by rw [targetsOf, if_neg k2, if_neg (by omega), if_neg (by omega), if_pos k1])
        have HW5 := Aside0.mk (HOK.out.1 (rd_T77 l0_3 a1).f1.f5 (by rw [HT.out]; simp))
        clear k1 k2
        go_enter Try.func54, Try.ntmps54
        go_wp2_with (first
          | (at_lookup; refine tos_lookup rfl _ _ rfl _ _ _ rfl (by first | exact HM.out | exact Tos.alloc HM.out _ | exact Tos.made' (by simp)) _ rfl (by first | exact HWK.out | exact HW5.out) ?_; intro cc)
          | (at_mapUpdate; refine tos_update rfl _ _ _ rfl _ _ _ rfl (by first | exact HM.out | exact Tos.alloc HM.out _ | exact Tos.made' (by simp)) (by omega) _ rfl (by first | exact HWK.out | exact HW5.out) _ rfl ?_; intro w1 hm1 hg1; have HM := Aside0.mk hm1; clear hm1; first | (have HG := Aside0.mk (HB.out.grown hg1 HB.out.size (fun k e => by cases e; first | omega | (simp <;> omega))); clear HB; have HB := HG; clear HG) | (have HG := Aside0.mk ((below_alloc HB.out _).grown hg1 (below_alloc HB.out _).size (fun k e => by cases e; first | omega | (simp <;> omega))); clear HB; have HB := HG; clear HG) | (have HB := Aside0.mk ((below_alloc (below_alloc (below_alloc (Below.refl w.heap.size w) _) _) _).grown hg1 (by first | omega | (simp <;> omega)) (fun k e => by cases e; first | omega | (simp <;> omega)))); try (have z5 : w1.cell? ⟨w.heap.size + 1, 5, none⟩ = some (.int .i64 (rd_T77 l0_3 a1).f1.f5) := (cell_grown1 hg1 (by simp) (by simp)).trans (by go_simp)))
          | (go_at_call 91; refine (keys_calls _ _).mono ?_; rintro e w' ⟨rfl, rfl⟩)
          | (go_at_call 90; refine (sorted_calls _ _ _ _ HM.out (by first | (rw [← HT.out]; exact HOK.out.2) | exact HOK.out.2) _ rfl).mono ?_; rintro e w' ⟨v, rfl, hR, hB⟩; have HR := Aside0.mk hR; have HB2 := Aside0.mk hB; clear hR hB)
          | go_in)
        go_ret
        exact ⟨_, rfl, by rw [← H.out, HT.out]; exact Kd.R_lower HR.out (by have := HB.out.size; omega), HB.out.trans (HB2.out.mono HB.out.size)⟩

      by_cases k3 : (rd_T77 l0_3 a1).f1.f0 = 3
      · have k2b : ((rd_T77 l0_3 a1).f1.f0 == 2) = false := beq_eq_false_iff_ne.mpr k2
        have k3b : ((rd_T77 l0_3 a1).f1.f0 == 3) = true := beq_iff_eq.mpr k3
        have HT := Aside0.mk (show targetsOf (rd_T77 l0_3 a1).f1 = (rd_T77 l0_3 a1).f1.f5 :: ((rd_T77 l0_3 a1).f1.f7.map (·.f1)).reverse by rw [targetsOf, if_neg k2, if_pos k3])
        have HW5 := Aside0.mk (HOK.out.1 (rd_T77 l0_3 a1).f1.f5 (by rw [HT.out]; simp))
        have HLL := Aside0.mk (show ((rd_T77 l0_3 a1).f1.f7.length + 1) * 8 ≤ 140737488355328 by have := HOK.out.2; rw [HT.out] at this; simpa using this)
        clear k1 k2 k3
        go_enter Try.func54, Try.ntmps54
        go_wp2
        go_loopw [38] (fun v38 wr => ∃ q : Nat, q ≤ (rd_T77 l0_3 a1).f1.f7.length ∧ v38 = .int .i64 (q : Int) ∧ Aside0 (Tos wr (w.heap.size + 1 + 1) q ((((rd_T77 l0_3 a1).f1.f7.map (·.f1)).take q).reverse)) ∧ wr.cell? ⟨w.heap.size + 1, 5, none⟩ = some (.int .i64 (rd_T77 l0_3 a1).f1.f5) ∧ Aside0 (Below w.heap.size w wr)) (fun v38 _ => (rd_T77 l0_3 a1).f1.f7.length - (intOf v38).toNat)
        case atStart => exact ⟨0, Nat.zero_le _, rfl, ⟨Tos.made' (by simp)⟩, by go_simp, ⟨below_alloc (below_alloc (below_alloc (Below.refl w.heap.size w) _) _) _⟩⟩
        case round =>
          obtain ⟨q, hq, rfl, HM, z5, HB⟩ := hrel
          by_cases hlt : q < (rd_T77 l0_3 a1).f1.f7.length
          · have hltb : decide ((q : Int) < ((rd_T77 l0_3 a1).f1.f7.length : Int)) = true := decide_eq_true (by omega)
            have HLT := Aside0.mk hlt
            have hq2 : (q : Int) + 1 ≤ 9223372036854775807 := by have := HLL.out; omega
            have hltn : decide (q < (rd_T77 l0_3 a1).f1.f7.length) = true := decide_eq_true hlt
            obtain ⟨ad8, e8, y0, y1⟩ := at_T85 G8.out (q : Int) (by omega) (by omega)
            cases e8
            simp only [Int.toNat_natCast] at y0 y1
            replace y0 := (HB.out.cell (World.block_lt_of_cell? w _ y0)).trans y0
            replace y1 := (HB.out.cell (World.block_lt_of_cell? w _ y1)).trans y1
            have HWK := Aside0.mk (HOK.out.1 (rd_T85 (rd_T77 l0_3 a1).f1.f7 (q : Int)).f1 (by
              rw [HT.out]
              refine List.mem_cons_of_mem _ (List.mem_reverse.2 (List.mem_map.2 ⟨_, ?_, rfl⟩))
              unfold rd_T85
              rw [Int.toNat_natCast, List.getD_eq_getElem?_getD, List.getElem?_eq_getElem hlt]
              exact List.getElem_mem hlt))
            go_wp2_with (first
              | (at_lookup; refine tos_lookup rfl _ _ rfl _ _ _ rfl (by first | exact HM.out | exact Tos.alloc HM.out _ | exact Tos.made' (by simp)) _ rfl (by first | exact HWK.out | exact HW5.out) ?_; intro cc)
              | (at_mapUpdate; refine tos_update rfl _ _ _ rfl _ _ _ rfl (by first | exact HM.out | exact Tos.alloc HM.out _ | exact Tos.made' (by simp)) (by have := HLL.out; omega) _ rfl (by first | exact HWK.out | exact HW5.out) _ rfl ?_; intro w1 hm1 hg1; have HM := Aside0.mk hm1; clear hm1; (first | (have HG := Aside0.mk (HB.out.grown hg1 HB.out.size (fun k e => by cases e; first | omega | (simp <;> omega))); clear HB; have HB := HG; clear HG) | (have HG := Aside0.mk ((below_alloc HB.out _).grown hg1 (below_alloc HB.out _).size (fun k e => by cases e; first | omega | (simp <;> omega))); clear HB; have HB := HG; clear HG) | (have HB := Aside0.mk ((below_alloc (below_alloc (below_alloc (Below.refl w.heap.size w) _) _) _).grown hg1 (by first | omega | (simp <;> omega)) (fun k e => by cases e; first | omega | (simp <;> omega))))); try (have z5' : w1.cell? ⟨w.heap.size + 1, 5, none⟩ = some (.int .i64 (rd_T77 l0_3 a1).f1.f5) := (cell_grown1 (p := ⟨w.heap.size + 1, 5, none⟩) hg1 (Nat.lt_of_lt_of_le (World.block_lt_of_cell? _ _ z5) (below_alloc (Below.refl _ _) _).size) (by simp)).trans (((below_alloc (Below.refl wr.heap.size wr) _).cell (p := ⟨w.heap.size + 1, 5, none⟩) (World.block_lt_of_cell? _ _ z5)).trans z5)))
              | go_in)
            go_roundw
            case measure => have := HLT.out; simp [intOf]; omega
            case rel => exact ⟨q + 1, HLT.out, by go_num, ⟨by
              have hlt := HLT.out
              have h2 := HM.out
              rw [List.take_succ_eq_append_getElem (by simpa using hlt), List.reverse_append]
              simpa [rd_T85, List.getD_eq_getElem?_getD, List.getElem?_eq_getElem hlt] using h2⟩, z5', HB⟩
          · obtain rfl : q = (rd_T77 l0_3 a1).f1.f7.length := by omega
            have hltb : decide (((rd_T77 l0_3 a1).f1.f7.length : Int) < ((rd_T77 l0_3 a1).f1.f7.length : Int)) = false := decide_eq_false (by omega)
            go_wp2_with (first
              | (at_lookup; refine tos_lookup rfl _ _ rfl _ _ _ rfl (by first | exact HM.out | exact Tos.alloc HM.out _ | exact Tos.made' (by simp)) _ rfl (by first | exact HWK.out | exact HW5.out) ?_; intro cc)
              | (at_mapUpdate; refine tos_update rfl _ _ _ rfl _ _ _ rfl (by first | exact HM.out | exact Tos.alloc HM.out _ | exact Tos.made' (by simp)) (by have := HLL.out; omega) _ rfl (by first | exact HWK.out | exact HW5.out) _ rfl ?_; intro w1 hm1 hg1; have HM := Aside0.mk hm1; clear hm1; (first | (have HG := Aside0.mk (HB.out.grown hg1 HB.out.size (fun k e => by cases e; first | omega | (simp <;> omega))); clear HB; have HB := HG; clear HG) | (have HG := Aside0.mk ((below_alloc HB.out _).grown hg1 (below_alloc HB.out _).size (fun k e => by cases e; first | omega | (simp <;> omega))); clear HB; have HB := HG; clear HG) | (have HB := Aside0.mk ((below_alloc (below_alloc (below_alloc (Below.refl w.heap.size w) _) _) _).grown hg1 (by first | omega | (simp <;> omega)) (fun k e => by cases e; first | omega | (simp <;> omega))))); try (have z5' : w1.cell? ⟨w.heap.size + 1, 5, none⟩ = some (.int .i64 (rd_T77 l0_3 a1).f1.f5) := (cell_grown1 hg1 (by have := World.block_lt_of_cell? _ _ z5; first | exact this | (simp at this ⊢; omega)) (by simp)).trans (by first | exact z5 | (go_simp; exact z5) | go_simp)))
              | (go_at_call 91; refine (keys_calls _ _).mono ?_; rintro e w' ⟨rfl, rfl⟩)
              | (go_at_call 90; refine (sorted_calls _ _ _ _ HM.out (by have := HLL.out; simp; omega) _ rfl).mono ?_; rintro e w' ⟨v, rfl, hR, hB⟩; have HR := Aside0.mk hR; have HB2 := Aside0.mk hB; clear hR hB)
              | go_in)
            go_ret
            exact ⟨_, rfl, by rw [← H.out, HT.out]; have h2 := HR.out; rw [List.take_of_length_le (by simp)] at h2; exact Kd.R_lower h2 (by have := HB.out.size; omega), HB.out.trans (HB2.out.mono HB.out.size)⟩
      by_cases k4 : (rd_T77 l0_3 a1).f1.f0 = 4
      · have k2b : ((rd_T77 l0_3 a1).f1.f0 == 2) = false := beq_eq_false_iff_ne.mpr k2
        have k3b : ((rd_T77 l0_3 a1).f1.f0 == 3) = false := beq_eq_false_iff_ne.mpr k3
        have k4b : ((rd_T77 l0_3 a1).f1.f0 == 4) = true := beq_iff_eq.mpr k4
        have HT := Aside0.mk (show targetsOf (rd_T77 l0_3 a1).f1 = (rd_T77 l0_3 a1).f1.f5 :: (rd_T77 l0_3 a1).f1.f8.reverse by rw [targetsOf, if_neg k2, if_neg k3, if_pos k4])
        have HW5 := Aside0.mk (HOK.out.1 (rd_T77 l0_3 a1).f1.f5 (by rw [HT.out]; simp))
        have HLL := Aside0.mk (show ((rd_T77 l0_3 a1).f1.f8.length + 1) * 8 ≤ 140737488355328 by have := HOK.out.2; rw [HT.out] at this; simpa using this)
        clear k1 k2 k3 k4
        go_enter Try.func54, Try.ntmps54
        go_wp2
        go_loopw [53] (fun v38 wr => ∃ q : Nat, q ≤ (rd_T77 l0_3 a1).f1.f8.length ∧ v38 = .int .i64 (q : Int) ∧ Aside0 (Tos wr (w.heap.size + 1 + 1) q (((rd_T77 l0_3 a1).f1.f8.take q).reverse)) ∧ wr.cell? ⟨w.heap.size + 1, 5, none⟩ = some (.int .i64 (rd_T77 l0_3 a1).f1.f5) ∧ Aside0 (Below w.heap.size w wr)) (fun v38 _ => (rd_T77 l0_3 a1).f1.f8.length - (intOf v38).toNat)
        case atStart => exact ⟨0, Nat.zero_le _, rfl, ⟨Tos.made' (by simp)⟩, by go_simp, ⟨below_alloc (below_alloc (below_alloc (Below.refl w.heap.size w) _) _) _⟩⟩
        case round =>
          obtain ⟨q, hq, rfl, HM, z5, HB⟩ := hrel
          by_cases hlt : q < (rd_T77 l0_3 a1).f1.f8.length
          · have hltb : decide ((q : Int) < ((rd_T77 l0_3 a1).f1.f8.length : Int)) = true := decide_eq_true (by omega)
            have HLT := Aside0.mk hlt
            have hq2 : (q : Int) + 1 ≤ 9223372036854775807 := by have := HLL.out; omega
            have hltn : decide (q < (rd_T77 l0_3 a1).f1.f8.length) = true := decide_eq_true hlt
            obtain ⟨ad8, e8, y0⟩ := Kd.at_int G9.out (q : Int) (by omega) (by omega)
            cases e8
            simp only [Int.toNat_natCast] at y0
            replace y0 := (HB.out.cell (World.block_lt_of_cell? w _ y0)).trans y0
            have HWK := Aside0.mk (HOK.out.1 (rd (rd_T77 l0_3 a1).f1.f8 (q : Int)) (by
              rw [HT.out]
              refine List.mem_cons_of_mem _ (List.mem_reverse.2 ?_)
              unfold rd
              rw [Int.toNat_natCast, List.getD_eq_getElem?_getD, List.getElem?_eq_getElem hlt]
              exact List.getElem_mem hlt))
            go_wp2_with (first
              | (at_lookup; refine tos_lookup rfl _ _ rfl _ _ _ rfl (by first | exact HM.out | exact Tos.alloc HM.out _ | exact Tos.made' (by simp)) _ rfl (by first | exact HWK.out | exact HW5.out) ?_; intro cc)
              | (at_mapUpdate; refine tos_update rfl _ _ _ rfl _ _ _ rfl (by first | exact HM.out | exact Tos.alloc HM.out _ | exact Tos.made' (by simp)) (by have := HLL.out; omega) _ rfl (by first | exact HWK.out | exact HW5.out) _ rfl ?_; intro w1 hm1 hg1; have HM := Aside0.mk hm1; clear hm1; (first | (have HG := Aside0.mk (HB.out.grown hg1 HB.out.size (fun k e => by cases e; first | omega | (simp <;> omega))); clear HB; have HB := HG; clear HG) | (have HG := Aside0.mk ((below_alloc HB.out _).grown hg1 (below_alloc HB.out _).size (fun k e => by cases e; first | omega | (simp <;> omega))); clear HB; have HB := HG; clear HG) | (have HB := Aside0.mk ((below_alloc (below_alloc (below_alloc (Below.refl w.heap.size w) _) _) _).grown hg1 (by first | omega | (simp <;> omega)) (fun k e => by cases e; first | omega | (simp <;> omega))))); try (have z5' : w1.cell? ⟨w.heap.size + 1, 5, none⟩ = some (.int .i64 (rd_T77 l0_3 a1).f1.f5) := (cell_grown1 (p := ⟨w.heap.size + 1, 5, none⟩) hg1 (World.block_lt_of_cell? _ _ z5) (by simp)).trans z5))
              | go_in)
            go_roundw
            case measure => have := HLT.out; simp [intOf]; omega
            case rel => exact ⟨q + 1, HLT.out, by go_num, ⟨by
              have hlt := HLT.out
              have h2 := HM.out
              rw [List.take_succ_eq_append_getElem (by simpa using hlt), List.reverse_append]
              simpa [rd, List.getD_eq_getElem?_getD, List.getElem?_eq_getElem hlt] using h2⟩, z5', HB⟩
          · obtain rfl : q = (rd_T77 l0_3 a1).f1.f8.length := by omega
            have hltb : decide (((rd_T77 l0_3 a1).f1.f8.length : Int) < ((rd_T77 l0_3 a1).f1.f8.length : Int)) = false := decide_eq_false (by omega)
            go_wp2_with (first
              | (at_lookup; refine tos_lookup rfl _ _ rfl _ _ _ rfl (by first | exact HM.out | exact Tos.alloc HM.out _ | exact Tos.made' (by simp)) _ rfl (by first | exact HWK.out | exact HW5.out) ?_; intro cc)
              | (at_mapUpdate; refine tos_update rfl _ _ _ rfl _ _ _ rfl (by first | exact HM.out | exact Tos.alloc HM.out _ | exact Tos.made' (by simp)) (by have := HLL.out; omega) _ rfl (by first | exact HWK.out | exact HW5.out) _ rfl ?_; intro w1 hm1 hg1; have HM := Aside0.mk hm1; clear hm1; (first | (have HG := Aside0.mk (HB.out.grown hg1 HB.out.size (fun k e => by cases e; first | omega | (simp <;> omega))); clear HB; have HB := HG; clear HG) | (have HG := Aside0.mk ((below_alloc HB.out _).grown hg1 (below_alloc HB.out _).size (fun k e => by cases e; first | omega | (simp <;> omega))); clear HB; have HB := HG; clear HG) | (have HB := Aside0.mk ((below_alloc (below_alloc (below_alloc (Below.refl w.heap.size w) _) _) _).grown hg1 (by first | omega | (simp <;> omega)) (fun k e => by cases e; first | omega | (simp <;> omega))))); try (have z5' : w1.cell? ⟨w.heap.size + 1, 5, none⟩ = some (.int .i64 (rd_T77 l0_3 a1).f1.f5) := (cell_grown1 hg1 (by have := World.block_lt_of_cell? _ _ z5; first | exact this | (simp at this ⊢; omega)) (by simp)).trans (by first | exact z5 | (go_simp; exact z5) | go_simp)))
              | (go_at_call 91; refine (keys_calls _ _).mono ?_; rintro e w' ⟨rfl, rfl⟩)
              | (go_at_call 90; refine (sorted_calls _ _ _ _ HM.out (by have := HLL.out; simp; omega) _ rfl).mono ?_; rintro e w' ⟨v, rfl, hR, hB⟩; have HR := Aside0.mk hR; have HB2 := Aside0.mk hB; clear hR hB)
              | go_in)
            go_ret
            exact ⟨_, rfl, by rw [← H.out, HT.out]; have h2 := HR.out; rw [List.take_of_length_le (by simp)] at h2; exact Kd.R_lower h2 (by have := HB.out.size; omega), HB.out.trans (HB2.out.mono HB.out.size)⟩
      · have k2b : ((rd_T77 l0_3 a1).f1.f0 == 2) = false := beq_eq_false_iff_ne.mpr k2
        have k3b : ((rd_T77 l0_3 a1).f1.f0 == 3) = false := beq_eq_false_iff_ne.mpr k3
        have k4b : ((rd_T77 l0_3 a1).f1.f0 == 4) = false := beq_eq_false_iff_ne.mpr k4
        have k1b : ((rd_T77 l0_3 a1).f1.f0 == 1) = false := beq_eq_false_iff_ne.mpr k1
        have HT := Aside0.mk (show targetsOf (rd_T77 l0_3 a1).f1 = [] by rw [targetsOf, if_neg k2, if_neg k3, if_neg k4, if_neg k1])
        clear k1 k2 k3 k4
        go_enter Try.func54, Try.ntmps54
        go_wp2
        go_ret
        exact ⟨_, rfl, by rw [← H.out, HT.out, nextL_nil]; exact Kd.R_nil _ _ _ _ _, below_alloc (below_alloc (below_alloc (Below.refl w.heap.size w) _) _) _⟩
    · rw [if_neg hok] at h
      cases h
  · rw [if_neg hb] at h
    obtain rfl := Option.some.inj h
    clear h
    by_cases p1 : 0 ≤ a1
    · have c0b : decide (0 ≤ a1) = true := decide_eq_true p1
      have c1b : decide (a1 < (l0_3.length : Int)) = false := decide_eq_false (fun h => hb ⟨p1, h⟩)
      go_enter Try.func54, Try.ntmps54
      go_wp2
      go_ret
      exact ⟨_, rfl, Kd.R_nil _ _ _ _ _, below_alloc (Below.refl w.heap.size w) _⟩
    · have c0b : decide (0 ≤ a1) = false := decide_eq_false p1
      go_enter Try.func54, Try.ntmps54
      go_wp2
      go_ret
      exact ⟨_, rfl, Kd.R_nil _ _ _ _ _, below_alloc (Below.refl w.heap.size w) _⟩
end Go.Proofs.Ytocdebfbpfmnnaa.Pr
