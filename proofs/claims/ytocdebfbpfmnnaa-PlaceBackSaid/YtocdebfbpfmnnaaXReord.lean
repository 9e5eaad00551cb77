/- place.Reorder: a graph's blocks in another order. -/
import Derived.Test.YtocdebfbpfmnnaaXTurnA
import Derived.Test.YtocdebfbpfmnnaaXEdges
import Derived.Test.YtocdebfbpfmnnaaXParts
import Derived.Lib.SliceRun
import Derived.Test.YtocdebfbpfmnnaaXLoop3
namespace Go.Proofs.Ytocdebfbpfmnnaa.Pr
open Go.RowKit Go.Proofs.YtocdebfbpfmnnaaW.PrintWords Go.Proofs.YtocdebfbpfmnnaaW.PrintLast Go.Proofs.YtocdebfbpfmnnaaW.PrintMore
set_option linter.unusedVariables false
set_option linter.unusedSimpArgs false

def reorderR (es : List (List Int)) (g : S26) (order : List Int) : S26 × Int :=
  if es = [] ∨ order.length ≠ g.f3.length ∨ rd order 0 ≠ 0 then (z26, 1)
  else match scan (List.replicate order.length (-1)) 0 order with
    | none => (z26, 1)
    | some at_ => (⟨g.f0, g.f1, g.f2, reorderL g.f3 at_ order⟩, 0)
theorem rep_step (n j : Nat) (a b : Int) (hj : j < n) : (List.replicate j a ++ List.replicate (n - j) b).set j a = List.replicate (j + 1) a ++ List.replicate (n - (j + 1)) b := by
  rw [List.set_append_right _ _ (by rw [List.length_replicate]; exact Nat.le_refl _), List.length_replicate, Nat.sub_self, show n - j = (n - (j + 1)) + 1 by omega, List.replicate_succ, List.set_cons_zero, List.replicate_succ', List.append_assoc]
  rfl
theorem drop_rd (l : List Int) (j : Nat) (hj : j < l.length) : l.drop j = rd l (j : Int) :: l.drop (j + 1) := by
  rw [List.drop_eq_getElem_cons hj]
  unfold rd
  rw [Int.toNat_natCast, List.getD_eq_getElem?_getD, List.getElem?_eq_getElem hj]; rfl
theorem zero77 (f : Nat → Nat) (w : World) (base t : Nat) : (Kd.tag f s77).M w base (fun _ => False) (z77, t) [.slice none 0 0, .int .i64 0, .int .i64 0, .int .i64 0, .int .i64 0, .int .u32 0, .int .i64 0, .int .i64 0, .slice none 0 0, .slice none 0 0] :=
  s77_mk (ok := fun k => False ∧ f k = t) (ok0 := fun _ => False) (ok8 := fun _ => False) (ok9 := fun _ => False) (x := z77) (Kd.S_nil _ _ _ _ _) (Kd.R_nil _ _ _ _ _) (Kd.R_nil _ _ _ _ _) (fun _ h => h.elim) (fun _ h => h.elim) (fun _ h => h.elim) (fun _ h => h.elim) (fun _ h => h.elim) (fun _ h => h.elim)
def ReorderPost (w : World) (r : S26 × Int) (e : Ending) (w' : World) : Prop :=
  ∃ (v0 v2 v3 : Value), e = .returned (.tuple #[.agg #[v0, .int .i64 r.1.f1, v2, v3], .int .i64 r.2]) ∧
    Kd.R (Kd.int .i64) 3 w' w.heap.size (fun _ => True) v0 r.1.f0 ∧ Kd.R k79 79 w' w.heap.size (fun _ => True) v2 r.1.f2 ∧ Kd.R k77 77 w' w.heap.size (fun _ => True) v3 r.1.f3 ∧ Below w.heap.size w w'

set_option maxHeartbeats 4000000 in
set_option maxRecDepth 100000 in
theorem place_Reorder.told (A0 : Option Addr) (c0 : Nat) (l0 : List Int) (a1 : Int) (A2 : Option Addr) (c2 : Nat) (l2 : List S79) (A3 : Option Addr) (c3 : Nat) (l3 : List S77) (AO : Option Addr) (cO : Nat) (order : List Int) (es : List (List Int)) (w : World)
    (hr0 : Kd.C (Kd.int .i64) w A0 l0.length l0) (hc0 : l0.length ≤ c0) (hr2 : Kd.C k79 w A2 l2.length l2) (hc2 : l2.length ≤ c2) (hr3 : Kd.C k77 w A3 l3.length l3) (hc3 : l3.length ≤ c3) (hrO : Kd.C (Kd.int .i64) w AO order.length order) (hcO : order.length ≤ cO)
    (hes : place_edges.f l0 a1 l2 l3 = some es) (hok : okGr ⟨l0, a1, l2, l3⟩) (hol : order.length * 8 ≤ 140737488355328) :
    Calls Try.prog 18 #[.agg #[.slice A0 l0.length c0, .int .i64 a1, .slice A2 l2.length c2, .slice A3 l3.length c3], .slice AO order.length cO] w (ReorderPost w (reorderR es ⟨l0, a1, l2, l3⟩ order)) := by
  have HR0 := Aside0.mk hr0
  have HC0 := Aside0.mk hc0
  have HR2 := Aside0.mk hr2
  have HC2 := Aside0.mk hc2
  have HR3 := Aside0.mk hr3
  have HC3 := Aside0.mk hc3
  have HRO := Aside0.mk hrO
  have HCO := Aside0.mk hcO
  have HES := Aside0.mk hes
  have HOK := Aside0.mk hok
  have HOL := Aside0.mk hol
  clear hr0 hc0 hr2 hc2 hr3 hc3 hrO hcO hes hok hol
  have hi3 : (Try.prog.info? 3).map (fun i => (i.zero, i.size, i.bytes)) = some (some (.int .i64 0), 1, 8) := by kernel_rfl
  go_enter Try.func18, Try.ntmps18
  go_wp2_with fail
  have BKb := Aside0.mk (blk_alloc (heap_alloc_new w (.cells #[.slice A0 l0.length c0, .int .i64 a1, .slice A2 l2.length c2, .slice A3 l3.length c3] 26)) (.cells #[.slice none 0 0, .int .i64 0, .slice none 0 0, .slice none 0 0] 26))
  have BKr := Aside0.mk (heap_alloc_new (w.alloc (.cells #[.slice A0 l0.length c0, .int .i64 a1, .slice A2 l2.length c2, .slice A3 l3.length c3] 26)) (.cells #[.slice none 0 0, .int .i64 0, .slice none 0 0, .slice none 0 0] 26))
  rw [World.size_alloc] at BKr
  have HB0 := Aside0.mk (below_alloc (below_alloc (Below.refl w.heap.size w) (.cells #[.slice A0 l0.length c0, .int .i64 a1, .slice A2 l2.length c2, .slice A3 l3.length c3] 26)) (.cells #[.slice none 0 0, .int .i64 0, .slice none 0 0, .slice none 0 0] 26))
  generalize (w.alloc (.cells #[.slice A0 l0.length c0, .int .i64 a1, .slice A2 l2.length c2, .slice A3 l3.length c3] 26)).alloc (.cells #[.slice none 0 0, .int .i64 0, .slice none 0 0, .slice none 0 0] 26) = W0 at BKb BKr HB0 ⊢
  have z0 : W0.cell? ⟨w.heap.size, 0, none⟩ = some (.slice A0 l0.length c0) := (blk_cell BKb.out 0).trans rfl
  have z1 : W0.cell? ⟨w.heap.size, 1, none⟩ = some (.int .i64 a1) := (blk_cell BKb.out 1).trans rfl
  have z2 : W0.cell? ⟨w.heap.size, 2, none⟩ = some (.slice A2 l2.length c2) := (blk_cell BKb.out 2).trans rfl
  have z3 : W0.cell? ⟨w.heap.size, 3, none⟩ = some (.slice A3 l3.length c3) := (blk_cell BKb.out 3).trans rfl
  have E0 := Aside0.mk (Kd.C_below HR0.out HB0.out)
  have E2 := Aside0.mk (Kd.C_below HR2.out HB0.out)
  have E3 := Aside0.mk (Kd.C_below HR3.out HB0.out)
  have EO := Aside0.mk (Kd.C_below HRO.out HB0.out)
  refine (place_edges.calls _ _ l0 a1 _ _ l2 _ _ l3 _ _ E0.out HC0.out E2.out HC2.out E3.out HC3.out HES.out).mono ?_
  rintro e W1 ⟨v, rfl, hRv, hBv, hn⟩
  have HRV := Aside0.mk hRv
  have HBV := Aside0.mk hBv
  have BKb1 := Aside0.mk (blk_below BKb.out HBV.out)
  have BKr1 := Aside0.mk (blk_below BKr.out HBV.out)
  have HB1 := Aside0.mk (below_then HB0.out HB0.out.size HBV.out)
  have EO1 := Aside0.mk (Kd.C_below EO.out HBV.out)
  clear z0 z1 z2 z3 hRv hBv
  have z3 : W1.cell? ⟨w.heap.size, 3, none⟩ = some (.slice A3 l3.length c3) := (blk_cell BKb1.out 3).trans rfl
  have r0 : W1.cell? ⟨w.heap.size + 1, 0, none⟩ = some (.slice none 0 0) := (blk_cell BKr1.out 0).trans rfl
  have r1 : W1.cell? ⟨w.heap.size + 1, 1, none⟩ = some (.int .i64 0) := (blk_cell BKr1.out 1).trans rfl
  have r2 : W1.cell? ⟨w.heap.size + 1, 2, none⟩ = some (.slice none 0 0) := (blk_cell BKr1.out 2).trans rfl
  have r3 : W1.cell? ⟨w.heap.size + 1, 3, none⟩ = some (.slice none 0 0) := (blk_cell BKr1.out 3).trans rfl
  have s0 := blk_frozen BKr1.out 0
  have s1 := blk_frozen BKr1.out 1
  have s2 := blk_frozen BKr1.out 2
  have s3 := blk_frozen BKr1.out 3
  by_cases hnil : es = []
  · obtain rfl := hn hnil
    have HNIL := Aside0.mk hnil
    clear hn hnil
    have hq := Go.Lib.run_eql_slice_nil (P := Try.prog) W1 31 22 none 0 0 0 0 Try.underlying31
    simp only [Option.isNone_none] at hq
    go_wp2
    rw [show ((((W1.setCell ⟨w.heap.size + 1, 0, none⟩ (.slice none 0 0)).setCell ⟨w.heap.size + 1, 1, none⟩ (.int .i64 0)).setCell ⟨w.heap.size + 1, 2, none⟩ (.slice none 0 0)).setCell ⟨w.heap.size + 1, 3, none⟩ (.slice none 0 0)) = W1.setCells (w.heap.size + 1) 0 [(.slice none 0 0), (.int .i64 0), (.slice none 0 0), (.slice none 0 0)] from rfl]
    have QK := Aside0.mk (sets_all (vs := [(.slice none 0 0), (.int .i64 0), (.slice none 0 0), (.slice none 0 0)]) BKr1.out rfl)
    have QB := Aside0.mk (sets_below (w0 := w) (g := w.heap.size + 1) (by omega) [(.slice none 0 0), (.int .i64 0), (.slice none 0 0), (.slice none 0 0)] 0 HB1.out)
    generalize W1.setCells (w.heap.size + 1) 0 [(.slice none 0 0), (.int .i64 0), (.slice none 0 0), (.slice none 0 0)] = W9 at QK QB ⊢
    refine bodyPost_ret (results_ct rfl _ _ (w.heap.size + 1) 26 #[(.slice none 0 0), (.int .i64 0), (.slice none 0 0), (.slice none 0 0)] (0, 0) _ rfl QK.out Try.underlying26 rfl (by kernel_rfl)) rfl ?_
    have e : reorderR es ⟨l0, a1, l2, l3⟩ order = (z26, 1) := by unfold reorderR; rw [if_pos (.inl HNIL.out)]
    rw [e]
    exact ⟨.slice none 0 0, .slice none 0 0, .slice none 0 0, rfl, Kd.R_nil _ _ _ _ _, Kd.R_nil _ _ _ _ _, Kd.R_nil _ _ _ _ _, QB.out⟩
  · obtain ⟨gE, cE, hv, -⟩ := Kd.R_form HRV.out (List.length_pos_iff.2 hnil)
    subst hv
    have HNIL := Aside0.mk hnil
    clear hn hnil
    have hq := Go.Lib.run_eql_slice_nil (P := Try.prog) W1 31 22 (some ⟨gE, 0, none⟩) es.length cE 0 0 Try.underlying31
    simp only [Option.isNone_some] at hq
    by_cases hlen : order.length = l3.length
    · have HLEN := Aside0.mk hlen
      have hlb : ((order.length : Int) == (l3.length : Int)) = true := by simp; omega
      have hlb2 : ((order.length : Int) != (l3.length : Int)) = false := by simp; omega
      have HN1 := Aside0.mk (show 1 ≤ order.length by
        rw [hlen]
        by_cases h0 : 1 ≤ l3.length
        · exact h0
        · exact absurd (by have h := HES.out; unfold place_edges.f at h; rw [if_neg (fun h => h0 h.1)] at h; exact (Option.some.inj h).symm) HNIL.out)
      obtain ⟨ad, had, q0⟩ := Kd.at_int EO1.out 0 (by omega) (by have := HN1.out; omega)
      have HAD := Aside0.mk had
      replace q0 : W1.cell? ad = some (.int .i64 (rd order 0)) := by
        have e0 : ad.add (0 : Int).toNat = ad := by obtain ⟨b, o, f⟩ := ad; unfold Addr.add; split <;> simp_all
        rwa [e0] at q0
      clear hlen had
      obtain rfl := HAD.out
      by_cases hz : rd order 0 = 0
      · have HZ := Aside0.mk hz
        have hzb : (rd order 0 != 0) = false := by simp [hz]
        have hn1 : (0 : Int) < (order.length : Int) := by have := HN1.out; omega
        clear hz
        have BKb2 := Aside0.mk (blk_below BKb.out HBV.out)
        clear r0 r1 r2 r3 s0 s1 s2 s3
        go_wp2_with (first
          | ((with_reducible refine gate_dst (N := 33) rfl ?_); refine Kd.R_make (Kd.int .i64) (w0 := w) w.heap.size 3 rfl rfl 22 _ _ rfl (order.length : Int) rfl rfl Try.underlying22 (.int .i64 0) 8 hi3 rfl (by decide) (by decide) (0 : Int) (ok := fun _ => True) (okp := fun _ => False) rfl (fun _ h => h.elim) trivial (by omega) (by simp; have := HOL.out; omega) HB1.out HB1.out.size ?_; intro v1 W2 hR1 hB1 hG1 hO1; rw [Int.toNat_natCast] at hR1; obtain ⟨gA, cA, hv, hgb, hgl, -⟩ := Kd.R_form hR1 (by rw [List.length_replicate]; have := HN1.out; omega); rw [List.length_replicate] at hv; subst hv; have HGE := Aside0.mk (show W1.heap.size ≤ gA by obtain ⟨b, hb1, hb2⟩ := hO1; have : gA = b := (by simpa [Value.ownBlock] using hb1); omega); have HBW := Aside0.mk (show Below W1.heap.size W1 W2 from ⟨hG1.os, hG1.tape, hG1.output, hG1.size, fun k hk => hG1.block k hk (by simp)⟩); have HGL := Aside0.mk hgl; have HB2 := Aside0.mk hB1; have HRA := Aside0.mk hR1; clear hR1 hgb hgl hO1 hB1 hG1 z3 q0)
          | fail)
        go_loopw [7, 36] (fun v7 v36 wr => ∃ j : Nat, j ≤ order.length ∧ v36 = .int .i64 (j : Int) ∧ Aside0 ((Kd.int .i64).R 3 wr w.heap.size (fun _ => True) (.slice (some ⟨gA, 0, none⟩) order.length cA) (List.replicate j (-1) ++ List.replicate (order.length - j) 0)) ∧ Aside0 (Touch (fun k => k = gA) W2 wr)) (fun v7 v36 _ => order.length - (intOf v36).toNat)
        case atStart => exact ⟨0, Nat.zero_le _, rfl, ⟨by simpa using HRA.out⟩, ⟨Touch.refl _ _⟩⟩
        case round =>
          obtain ⟨j, hj, rfl, RJ, TJ⟩ := hrel
          have hj2 : (j : Int) + 1 ≤ 9223372036854775807 := by have := HOL.out; omega
          by_cases hlt : j < order.length
          · have HLT := Aside0.mk hlt
            have hltb : decide ((j : Int) < (order.length : Int)) = true := decide_eq_true (by omega)
            have hlti : (j : Int) < (order.length : Int) := by omega
            have q0 := int_cell RJ.out j hlt
            have f0 := row_frozen RJ.out j
            clear hlt
            go_wp2
            go_roundw
            case measure => have := HLT.out; simp [intOf]; omega
            case rel => exact ⟨j + 1, HLT.out, by go_num, ⟨by have h := int_set RJ.out j HLT.out (-1); rw [rep_step _ _ _ _ HLT.out] at h; exact h⟩, ⟨TJ.out.set rfl _⟩⟩
          · obtain rfl : j = order.length := by omega
            have hltb : decide ((order.length : Int) < (order.length : Int)) = false := decide_eq_false (by omega)
            have RN := Aside0.mk (show (Kd.int .i64).R 3 wr w.heap.size (fun _ => True) (.slice (some ⟨gA, 0, none⟩) order.length cA) (List.replicate order.length (-1)) by have h := RJ.out; rwa [Nat.sub_self, List.replicate_zero, List.append_nil] at h)
            have TN := Aside0.mk TJ.out
            clear RJ TJ hlt
            go_wp2
            go_loopw [8, 9, 45] (fun v8 v9 v45 wr => ∃ (j : Nat) (at_ : List Int), j ≤ order.length ∧ v45 = .int .i64 (j : Int) ∧ Aside0 ((Kd.int .i64).R 3 wr w.heap.size (fun _ => True) (.slice (some ⟨gA, 0, none⟩) order.length cA) at_) ∧ Aside0 (at_.length = order.length) ∧ Aside0 (scan (List.replicate order.length (-1)) 0 order = scan at_ j (order.drop j)) ∧ Aside0 (Touch (fun k => k = gA) W2 wr)) (fun v8 v9 v45 _ => order.length - (intOf v45).toNat)
            case atStart => exact ⟨0, _, Nat.zero_le _, rfl, RN, ⟨List.length_replicate ..⟩, ⟨rfl⟩, TN⟩
            case round =>
              clear RN TN
              obtain ⟨j, at_, hj, rfl, RJ, HLA, SC, TJ⟩ := hrel
              have hj2 : (j : Int) + 1 ≤ 9223372036854775807 := by have := HOL.out; omega
              by_cases hlt : j < order.length
              · have HLT := Aside0.mk hlt
                have hltb : decide ((j : Int) < (order.length : Int)) = true := decide_eq_true (by omega)
                have hlti : (j : Int) < (order.length : Int) := by omega
                have HBr0 := Aside0.mk (TJ.out.below HB2.out (fun k hk => by have := HGE.out; have := HB1.out.size; omega))
                obtain ⟨ad', had', q0⟩ := Kd.at_int (Kd.C_below HRO.out HBr0.out) (j : Int) (by omega) hlti
                obtain rfl : ad = ad' := by injection had'
                rw [Int.toNat_natCast] at q0
                clear had' hlt
                by_cases hb0 : rd order (j : Int) < 0
                · have hb0b : decide (rd order (j : Int) < 0) = true := decide_eq_true hb0
                  have HBAD := Aside0.mk (show scan (List.replicate order.length (-1)) 0 order = none by rw [SC.out, drop_rd order j HLT.out]; unfold scan; rw [if_pos (.inl hb0)])
                  have BKr3 := Aside0.mk ((TJ.out.block _ (by have := HGE.out; have := blk_lt BKr1.out; omega)).trans (blk_below BKr1.out HBW.out))
                  have HBr := Aside0.mk (TJ.out.below HB2.out (fun k hk => by have := HGE.out; have := HB1.out.size; omega))
                  have r0 : wr.cell? ⟨w.heap.size + 1, 0, none⟩ = some (.slice none 0 0) := (blk_cell BKr3.out 0).trans rfl
                  have r1 : wr.cell? ⟨w.heap.size + 1, 1, none⟩ = some (.int .i64 0) := (blk_cell BKr3.out 1).trans rfl
                  have r2 : wr.cell? ⟨w.heap.size + 1, 2, none⟩ = some (.slice none 0 0) := (blk_cell BKr3.out 2).trans rfl
                  have r3 : wr.cell? ⟨w.heap.size + 1, 3, none⟩ = some (.slice none 0 0) := (blk_cell BKr3.out 3).trans rfl
                  have s0 := blk_frozen BKr3.out 0
                  have s1 := blk_frozen BKr3.out 1
                  have s2 := blk_frozen BKr3.out 2
                  have s3 := blk_frozen BKr3.out 3
                  clear hb0
                  go_wp2
                  rw [show ((((wr.setCell ⟨w.heap.size + 1, 0, none⟩ (.slice none 0 0)).setCell ⟨w.heap.size + 1, 1, none⟩ (.int .i64 0)).setCell ⟨w.heap.size + 1, 2, none⟩ (.slice none 0 0)).setCell ⟨w.heap.size + 1, 3, none⟩ (.slice none 0 0)) = wr.setCells (w.heap.size + 1) 0 [(.slice none 0 0), (.int .i64 0), (.slice none 0 0), (.slice none 0 0)] from rfl]
                  have QK := Aside0.mk (sets_all (vs := [(.slice none 0 0), (.int .i64 0), (.slice none 0 0), (.slice none 0 0)]) BKr3.out rfl)
                  have QB := Aside0.mk (sets_below (w0 := w) (g := w.heap.size + 1) (by omega) [(.slice none 0 0), (.int .i64 0), (.slice none 0 0), (.slice none 0 0)] 0 HBr.out)
                  generalize wr.setCells (w.heap.size + 1) 0 [(.slice none 0 0), (.int .i64 0), (.slice none 0 0), (.slice none 0 0)] = W9 at QK QB ⊢
                  refine bodyPost_ret (results_ct rfl _ _ (w.heap.size + 1) 26 #[(.slice none 0 0), (.int .i64 0), (.slice none 0 0), (.slice none 0 0)] (0, 0) _ rfl QK.out Try.underlying26 rfl (by kernel_rfl)) rfl ?_
                  have e : reorderR es ⟨l0, a1, l2, l3⟩ order = (z26, 1) := by unfold reorderR; rw [if_neg (fun h => h.elim HNIL.out (fun h => h.elim (fun h => h HLEN.out) (fun h => h HZ.out))), HBAD.out]
                  rw [e]
                  exact ⟨.slice none 0 0, .slice none 0 0, .slice none 0 0, rfl, Kd.R_nil _ _ _ _ _, Kd.R_nil _ _ _ _ _, Kd.R_nil _ _ _ _ _, QB.out⟩
                · have hb0b : decide (rd order (j : Int) < 0) = false := decide_eq_false hb0
                  have hbn0 : (0 : Int) ≤ rd order (j : Int) := by omega
                  by_cases hb1 : (order.length : Int) ≤ rd order (j : Int)
                  · have hb1b : decide ((order.length : Int) ≤ rd order (j : Int)) = true := decide_eq_true hb1
                    have hb1c : decide (rd order (j : Int) ≥ (order.length : Int)) = true := decide_eq_true hb1
                    have HBAD := Aside0.mk (show scan (List.replicate order.length (-1)) 0 order = none by rw [SC.out, drop_rd order j HLT.out]; unfold scan; rw [if_pos (.inr (.inl (by rw [HLA.out]; exact hb1)))])
                    have BKr3 := Aside0.mk ((TJ.out.block _ (by have := HGE.out; have := blk_lt BKr1.out; omega)).trans (blk_below BKr1.out HBW.out))
                    have HBr := Aside0.mk (TJ.out.below HB2.out (fun k hk => by have := HGE.out; have := HB1.out.size; omega))
                    have r0 : wr.cell? ⟨w.heap.size + 1, 0, none⟩ = some (.slice none 0 0) := (blk_cell BKr3.out 0).trans rfl
                    have r1 : wr.cell? ⟨w.heap.size + 1, 1, none⟩ = some (.int .i64 0) := (blk_cell BKr3.out 1).trans rfl
                    have r2 : wr.cell? ⟨w.heap.size + 1, 2, none⟩ = some (.slice none 0 0) := (blk_cell BKr3.out 2).trans rfl
                    have r3 : wr.cell? ⟨w.heap.size + 1, 3, none⟩ = some (.slice none 0 0) := (blk_cell BKr3.out 3).trans rfl
                    have s0 := blk_frozen BKr3.out 0
                    have s1 := blk_frozen BKr3.out 1
                    have s2 := blk_frozen BKr3.out 2
                    have s3 := blk_frozen BKr3.out 3
                    clear hb0 hb1
                    go_wp2
                    rw [show ((((wr.setCell ⟨w.heap.size + 1, 0, none⟩ (.slice none 0 0)).setCell ⟨w.heap.size + 1, 1, none⟩ (.int .i64 0)).setCell ⟨w.heap.size + 1, 2, none⟩ (.slice none 0 0)).setCell ⟨w.heap.size + 1, 3, none⟩ (.slice none 0 0)) = wr.setCells (w.heap.size + 1) 0 [(.slice none 0 0), (.int .i64 0), (.slice none 0 0), (.slice none 0 0)] from rfl]
                    have QK := Aside0.mk (sets_all (vs := [(.slice none 0 0), (.int .i64 0), (.slice none 0 0), (.slice none 0 0)]) BKr3.out rfl)
                    have QB := Aside0.mk (sets_below (w0 := w) (g := w.heap.size + 1) (by omega) [(.slice none 0 0), (.int .i64 0), (.slice none 0 0), (.slice none 0 0)] 0 HBr.out)
                    generalize wr.setCells (w.heap.size + 1) 0 [(.slice none 0 0), (.int .i64 0), (.slice none 0 0), (.slice none 0 0)] = W9 at QK QB ⊢
                    refine bodyPost_ret (results_ct rfl _ _ (w.heap.size + 1) 26 #[(.slice none 0 0), (.int .i64 0), (.slice none 0 0), (.slice none 0 0)] (0, 0) _ rfl QK.out Try.underlying26 rfl (by kernel_rfl)) rfl ?_
                    have e : reorderR es ⟨l0, a1, l2, l3⟩ order = (z26, 1) := by unfold reorderR; rw [if_neg (fun h => h.elim HNIL.out (fun h => h.elim (fun h => h HLEN.out) (fun h => h HZ.out))), HBAD.out]
                    rw [e]
                    exact ⟨.slice none 0 0, .slice none 0 0, .slice none 0 0, rfl, Kd.R_nil _ _ _ _ _, Kd.R_nil _ _ _ _ _, Kd.R_nil _ _ _ _ _, QB.out⟩
                  · have hb1b : decide ((order.length : Int) ≤ rd order (j : Int)) = false := decide_eq_false hb1
                    have hb1c : decide (rd order (j : Int) ≥ (order.length : Int)) = false := decide_eq_false hb1
                    have hb1d : rd order (j : Int) < (order.length : Int) := by omega
                    have q1 : wr.cell? ⟨gA, (rd order (j : Int)).toNat, none⟩ = some (.int .i64 (rd at_ (rd order (j : Int)))) := int_cell RJ.out (rd order (j : Int)).toNat (by omega)
                    by_cases hb2 : 0 ≤ rd at_ (rd order (j : Int))
                    · have hb2b : decide (0 ≤ rd at_ (rd order (j : Int))) = true := decide_eq_true hb2
                      have hb2c : decide (rd at_ (rd order (j : Int)) ≥ 0) = true := decide_eq_true hb2
                      have HBAD := Aside0.mk (show scan (List.replicate order.length (-1)) 0 order = none by rw [SC.out, drop_rd order j HLT.out]; unfold scan; rw [if_pos (.inr (.inr hb2))])
                      have BKr3 := Aside0.mk ((TJ.out.block _ (by have := HGE.out; have := blk_lt BKr1.out; omega)).trans (blk_below BKr1.out HBW.out))
                      have HBr := Aside0.mk (TJ.out.below HB2.out (fun k hk => by have := HGE.out; have := HB1.out.size; omega))
                      have r0 : wr.cell? ⟨w.heap.size + 1, 0, none⟩ = some (.slice none 0 0) := (blk_cell BKr3.out 0).trans rfl
                      have r1 : wr.cell? ⟨w.heap.size + 1, 1, none⟩ = some (.int .i64 0) := (blk_cell BKr3.out 1).trans rfl
                      have r2 : wr.cell? ⟨w.heap.size + 1, 2, none⟩ = some (.slice none 0 0) := (blk_cell BKr3.out 2).trans rfl
                      have r3 : wr.cell? ⟨w.heap.size + 1, 3, none⟩ = some (.slice none 0 0) := (blk_cell BKr3.out 3).trans rfl
                      have s0 := blk_frozen BKr3.out 0
                      have s1 := blk_frozen BKr3.out 1
                      have s2 := blk_frozen BKr3.out 2
                      have s3 := blk_frozen BKr3.out 3
                      clear hb0 hb1 hb2
                      go_wp2
                      rw [show ((((wr.setCell ⟨w.heap.size + 1, 0, none⟩ (.slice none 0 0)).setCell ⟨w.heap.size + 1, 1, none⟩ (.int .i64 0)).setCell ⟨w.heap.size + 1, 2, none⟩ (.slice none 0 0)).setCell ⟨w.heap.size + 1, 3, none⟩ (.slice none 0 0)) = wr.setCells (w.heap.size + 1) 0 [(.slice none 0 0), (.int .i64 0), (.slice none 0 0), (.slice none 0 0)] from rfl]
                      have QK := Aside0.mk (sets_all (vs := [(.slice none 0 0), (.int .i64 0), (.slice none 0 0), (.slice none 0 0)]) BKr3.out rfl)
                      have QB := Aside0.mk (sets_below (w0 := w) (g := w.heap.size + 1) (by omega) [(.slice none 0 0), (.int .i64 0), (.slice none 0 0), (.slice none 0 0)] 0 HBr.out)
                      generalize wr.setCells (w.heap.size + 1) 0 [(.slice none 0 0), (.int .i64 0), (.slice none 0 0), (.slice none 0 0)] = W9 at QK QB ⊢
                      refine bodyPost_ret (results_ct rfl _ _ (w.heap.size + 1) 26 #[(.slice none 0 0), (.int .i64 0), (.slice none 0 0), (.slice none 0 0)] (0, 0) _ rfl QK.out Try.underlying26 rfl (by kernel_rfl)) rfl ?_
                      have e : reorderR es ⟨l0, a1, l2, l3⟩ order = (z26, 1) := by unfold reorderR; rw [if_neg (fun h => h.elim HNIL.out (fun h => h.elim (fun h => h HLEN.out) (fun h => h HZ.out))), HBAD.out]
                      rw [e]
                      exact ⟨.slice none 0 0, .slice none 0 0, .slice none 0 0, rfl, Kd.R_nil _ _ _ _ _, Kd.R_nil _ _ _ _ _, Kd.R_nil _ _ _ _ _, QB.out⟩
                    · have hb2b : decide (0 ≤ rd at_ (rd order (j : Int))) = false := decide_eq_false hb2
                      have hb2c : decide (rd at_ (rd order (j : Int)) ≥ 0) = false := decide_eq_false hb2
                      have f0 := row_frozen RJ.out (rd order (j : Int)).toNat
                      have HNB := Aside0.mk (show ¬ badAt at_ (rd order (j : Int)) by unfold badAt; rw [HLA.out]; omega)
                      have HBL := Aside0.mk (show (rd order (j : Int)).toNat < order.length by omega)
                      clear hb0 hb1 hb2
                      go_wp2
                      go_roundw
                      case measure => have := HLT.out; simp [intOf]; omega
                      case rel => exact ⟨j + 1, _, HLT.out, by go_num, ⟨int_set RJ.out _ HBL.out (j : Int)⟩, ⟨(List.length_set ..).trans HLA.out⟩, ⟨by rw [SC.out, drop_rd order j HLT.out]; conv => lhs; unfold scan; rw [if_neg HNB.out]⟩, ⟨TJ.out.set rfl _⟩⟩
              · obtain rfl : j = order.length := by omega
                have hltb : decide ((order.length : Int) < (order.length : Int)) = false := decide_eq_false (by omega)
                have HSC := Aside0.mk (show scan (List.replicate order.length (-1)) 0 order = some at_ by rw [SC.out, List.drop_of_length_le (Nat.le_refl _)]; rfl)
                clear SC hlt
                have HBr := Aside0.mk (TJ.out.below HB2.out (fun k hk => by have := HGE.out; have := HB1.out.size; omega))
                have BKb3 := Aside0.mk ((TJ.out.block _ (by have := HGE.out; have := blk_lt BKb1.out; omega)).trans (blk_below BKb1.out HBW.out))
                have BKr3 := Aside0.mk ((TJ.out.block _ (by have := HGE.out; have := blk_lt BKr1.out; omega)).trans (blk_below BKr1.out HBW.out))
                have HGR := Aside0.mk (show gA < wr.heap.size by rw [TJ.out.size]; exact HGL.out)
                have HSZ := Aside0.mk (show w.heap.size + 1 < wr.heap.size from blk_lt BKr3.out)
                have z0 : wr.cell? ⟨w.heap.size, 0, none⟩ = some (.slice A0 l0.length c0) := (blk_cell BKb3.out 0).trans rfl
                have z1 : wr.cell? ⟨w.heap.size, 1, none⟩ = some (.int .i64 a1) := (blk_cell BKb3.out 1).trans rfl
                have z2 : wr.cell? ⟨w.heap.size, 2, none⟩ = some (.slice A2 l2.length c2) := (blk_cell BKb3.out 2).trans rfl
                have z3 : wr.cell? ⟨w.heap.size, 3, none⟩ = some (.slice A3 l3.length c3) := (blk_cell BKb3.out 3).trans rfl
                have BKn := Aside0.mk (heap_alloc_new wr (.cells #[.slice A0 l0.length c0, .int .i64 a1, .slice A2 l2.length c2, .slice A3 l3.length c3] 26))
                have HBn := Aside0.mk (below_alloc (Below.refl wr.heap.size wr) (.cells #[.slice A0 l0.length c0, .int .i64 a1, .slice A2 l2.length c2, .slice A3 l3.length c3] 26))
                have HSn := Aside0.mk (World.size_alloc wr (.cells #[.slice A0 l0.length c0, .int .i64 a1, .slice A2 l2.length c2, .slice A3 l3.length c3] 26))
                have CM := Aside0.mk (C_one (d := k26) (x := ⟨l0, a1, l2, l3⟩) (k26_mk (wr.alloc (.cells #[.slice A0 l0.length c0, .int .i64 a1, .slice A2 l2.length c2, .slice A3 l3.length c3] 26)) ⟨l0, a1, l2, l3⟩ HC0.out (Kd.C_below (Kd.C_below HR0.out HBr.out) HBn.out) HC2.out (Kd.C_below (Kd.C_below HR2.out HBr.out) HBn.out) HC3.out (Kd.C_below (Kd.C_below HR3.out HBr.out) HBn.out)) BKn.out)
                have HMOK := Aside0.mk (show okMod [] [] [⟨l0, a1, l2, l3⟩] from ⟨by decide, by decide, by simp, fun g hg => by rw [List.mem_singleton.1 hg]; exact HOK.out⟩)
                go_wp2_with (first
                  | ((go_at_call 42); refine (graph_Copy.calls none 0 [] none 0 [] _ 1 [⟨l0, a1, l2, l3⟩] 0 _ (Kd.C_nil _ _) (Nat.le_refl _) (Kd.C_nil _ _) (Nat.le_refl _) CM.out (Nat.le_refl _) HMOK.out).mono ?_; rintro e X1 ⟨vG, vA, vF, N, rfl, hGl, hAr, hS, hB⟩; obtain ⟨AG, cG0, rfl, -⟩ := Kd.R_reads hGl; obtain ⟨AR, cR0, rfl, -⟩ := Kd.R_reads hAr; clear hGl hAr; rw [HSn.out] at hS; obtain ⟨gF, cF, A0', c0', A2', c2', B, cB, f, ok3, rfl, y0, y1, y2, y3, hP0, hP2, hT, hk3, hB3⟩ := graph_parts hS (by have := HN1.out; have := HLEN.out; show 1 ≤ l3.length; omega); have HBX := Aside0.mk (below_then HBn.out HBn.out.size hB); have P0 := Aside0.mk hP0; have P2 := Aside0.mk hP2; have HT := Aside0.mk hT; have K3 := Aside0.mk hk3; have OB := Aside0.mk hB3; have BKb4 := Aside0.mk (blk_below BKb3.out HBX.out); have BKr4 := Aside0.mk (blk_below BKr3.out HBX.out); have b0 : X1.cell? ⟨w.heap.size, 0, none⟩ = some (.slice A0 l0.length c0) := (blk_cell BKb4.out 0).trans rfl; have b1 : X1.cell? ⟨w.heap.size, 1, none⟩ = some (.int .i64 a1) := (blk_cell BKb4.out 1).trans rfl; have b2 : X1.cell? ⟨w.heap.size, 2, none⟩ = some (.slice A2 l2.length c2) := (blk_cell BKb4.out 2).trans rfl; have b3 : X1.cell? ⟨w.heap.size, 3, none⟩ = some (.slice A3 l3.length c3) := (blk_cell BKb4.out 3).trans rfl; have d0 := blk_frozen BKb4.out 0; have d1 := blk_frozen BKb4.out 1; have d2 := blk_frozen BKb4.out 2; have d3 := blk_frozen BKb4.out 3; have hfd : (Instr.field 50 (.agg #[.slice AG 0 cG0, .slice AR 0 cR0, .slice (some ⟨gF, 0, none⟩) 1 cF, .int .i64 0]) 2).run Try.prog X1 = .ok (.slice (some ⟨gF, 0, none⟩) 1 cF) X1 := (by kernel_rfl); clear hS hB hP0 hP2 hT hk3 hB3 z0 z1 z2 z3)
                  | ((with_reducible refine gate_dst (N := 80) rfl ?_); go_loud (have T2 := Aside0.mk (((((Touch.refl (fun k => k = w.heap.size) X1).set (p := ⟨w.heap.size, 0, none⟩) rfl (.slice A0' l0.length c0')).set (p := ⟨w.heap.size, 1, none⟩) rfl (.int .i64 a1)).set (p := ⟨w.heap.size, 2, none⟩) rfl (.slice A2' l2.length c2')).set (p := ⟨w.heap.size, 3, none⟩) rfl (.slice (some ⟨B, 0, none⟩) l3.length cB)); have BKb5 := Aside0.mk (show ((((X1.setCell ⟨w.heap.size, 0, none⟩ (.slice A0' l0.length c0')).setCell ⟨w.heap.size, 1, none⟩ (.int .i64 a1)).setCell ⟨w.heap.size, 2, none⟩ (.slice A2' l2.length c2')).setCell ⟨w.heap.size, 3, none⟩ (.slice (some ⟨B, 0, none⟩) l3.length cB)).heap[w.heap.size]? = some (.cells #[.slice A0' l0.length c0', .int .i64 a1, .slice A2' l2.length c2', .slice (some ⟨B, 0, none⟩) l3.length cB] 26 (0, 0)) from sets_all (vs := [.slice A0' l0.length c0', .int .i64 a1, .slice A2' l2.length c2', .slice (some ⟨B, 0, none⟩) l3.length cB]) BKb4.out rfl); generalize ((((X1.setCell ⟨w.heap.size, 0, none⟩ (.slice A0' l0.length c0')).setCell ⟨w.heap.size, 1, none⟩ (.int .i64 a1)).setCell ⟨w.heap.size, 2, none⟩ (.slice A2' l2.length c2')).setCell ⟨w.heap.size, 3, none⟩ (.slice (some ⟨B, 0, none⟩) l3.length cB)) = X2 at T2 BKb5 ⊢; have HBX1 := Aside0.mk (below_then HBr.out HBr.out.size HBX.out); have HBX2 := Aside0.mk (T2.out.below HBX1.out (fun k hk => Nat.le_of_eq hk.symm)); refine Kd.R_make (Kd.tag f s77) (w0 := w) w.heap.size 77 rfl rfl 24 _ _ rfl (order.length : Int) rfl rfl Try.underlying24 (.agg #[.slice none 0 0, .int .i64 0, .int .i64 0, .int .i64 0, .int .i64 0, .int .u32 0, .int .i64 0, .int .i64 0, .slice none 0 0, .slice none 0 0]) 128 infoS77 rfl (show 0 < 10 by decide) (by decide) (z77, order.length) (ok := fun k => X2.heap.size ≤ k ∨ (ok3 k ∧ k ≠ B)) (okp := fun _ => False) (zero77 f X2 _ order.length) (fun _ h => h.elim) (.inl (Nat.le_refl _)) (by omega) (by have h1 := HOK.out.2.2.1; have h2 := HLEN.out; simp only [Int.toNat_natCast]; simp only at h1; omega) HBX2.out HBX2.out.size ?_; intro v1 X3 hR1 hB1 hG1 hO1; rw [Int.toNat_natCast] at hR1; obtain ⟨G, cG, hv, -⟩ := Kd.R_form hR1 (by rw [List.length_replicate]; have := HN1.out; omega); rw [List.length_replicate] at hv; subst hv; have HGG := Aside0.mk (show X2.heap.size ≤ G by obtain ⟨b, hb1, hb2⟩ := hO1; have : G = b := (by simpa [Value.ownBlock] using hb1); omega); have HB3 := Aside0.mk hB1; have HGR3 := Aside0.mk (show Below X2.heap.size X2 X3 from ⟨hG1.os, hG1.tape, hG1.output, hG1.size, fun k hk => hG1.block k hk (by simp)⟩); have RG := Aside0.mk hR1; clear hR1 hO1 hB1 hG1 y0 y1 y2 y3 b0 b1 b2 b3 d0 d1 d2 d3))
                  | fail)
                obtain ⟨wq, rfl⟩ : ∃ wq : World, wq = wr := ⟨_, rfl⟩
                obtain ⟨sc1, sc2, sc3⟩ := scan_some HSC.out
                have HWK := Aside0.mk (show ∀ b ∈ l3, okEnd l3.length b.f1 by
                  have h := HES.out
                  have h0 := HNIL.out
                  unfold place_edges.f at h
                  split at h
                  · split at h
                    · by_cases hw : walksL l3.length l3 = true
                      · exact walks_iff.1 hw
                      · rw [if_neg hw] at h
                        exact absurd (Option.some.inj h).symm h0
                    · cases h
                  · exact absurd (Option.some.inj h).symm h0)
                rw [List.length_replicate] at sc2
                have SC2 := Aside0.mk sc2
                have SC3 := Aside0.mk sc3
                have HMV := Aside0.mk (show ∀ k, k < X1.heap.size → k ≠ w.heap.size → X3.heap[k]? = X1.heap[k]? from fun k h1 h2 => (HGR3.out.block k (by rw [T2.out.size]; exact h1)).trans (T2.out.block k h2))
                have HX12 := Aside0.mk (show X2.heap.size = X1.heap.size from T2.out.size)
                have RA3 := Aside0.mk (Kd.R_move (w1 := X3) (int_own RJ.out) (fun k hk => by
                  subst hk
                  have h1 := HGR.out
                  have h2 := HBX.out.size
                  have h3 := HGE.out
                  have h4 := blk_lt BKr1.out
                  exact (HMV.out _ (by omega) (by omega)).trans (HBX.out.block _ h1)))
                have HT3 := Aside0.mk (Kd.R_lower (Kd.R_move (w1 := X3) HT.out (fun k hk => by
                  have h1 := K3.out k hk
                  have h2 := HSZ.out
                  exact HMV.out k h1.2 (by omega))) (show w.heap.size ≤ wq.heap.size + 1 from by have := HSZ.out; omega))
                clear sc1 sc2 sc3 hfd hq hzb hlb hlb2 hn1 hi3
                rename_i K4 hj0 hj20 hltb0 Q1 K3 a2 K2 Q0 K1 a1 K0 a0
                clear a1 a2 hj0 hj20 hltb0
                go_loopw [11, 12, 83] (fun v11 v12 v83 wr => ∃ i : Nat, i ≤ order.length ∧ v83 = .int .i64 (i : Int) ∧ Aside0 ((Kd.tag f s77).R 77 wr w.heap.size (fun k => X2.heap.size ≤ k ∨ (ok3 k ∧ k ≠ B)) (.slice (some ⟨G, 0, none⟩) order.length cG) (filled (fun b => (turnB at_ (rd_T77 l3 b), b.toNat)) (z77, order.length) order i)) ∧ Aside0 (Touch (fun k => k = G ∨ ((k ≠ B ∧ (X2.heap.size ≤ k ∨ ok3 k)) ∧ ∃ j : Nat, j < i ∧ f k = (rd order (j : Int)).toNat)) X3 wr)) (fun v11 v12 v83 _ => order.length - (intOf v83).toNat)
                case atStart => exact ⟨0, Nat.zero_le _, rfl, ⟨by rw [filled_zero]; exact RG.out⟩, ⟨Touch.refl _ _⟩⟩
                case round =>
                  clear RG
                  obtain ⟨i, hi, rfl, RG, TG⟩ := hrel
                  have hi2 : (i : Int) + 1 ≤ 9223372036854775807 := by have := HOL.out; omega
                  have HBw := Aside0.mk (TG.out.below HB3.out (fun k hk => by
                    rcases hk with rfl | ⟨⟨_, h | h⟩, _⟩
                    · exact Nat.le_trans HBX2.out.size HGG.out
                    · exact Nat.le_trans HBX2.out.size h
                    · have := K3.out k h; have := HSZ.out; omega))
                  by_cases hlt : i < order.length
                  · have HLT := Aside0.mk hlt
                    have hltb : decide ((i : Int) < (order.length : Int)) = true := decide_eq_true (by omega)
                    have hlti : (i : Int) < (order.length : Int) := by omega
                    obtain ⟨ad', had', q0⟩ := Kd.at_int (Kd.C_below HRO.out HBw.out) (i : Int) (by omega) hlti
                    obtain rfl : ad = ad' := by injection had'
                    rw [Int.toNat_natCast] at q0
                    have hmem : rd order (i : Int) ∈ order := by
                      unfold rd; rw [Int.toNat_natCast, List.getD_eq_getElem?_getD, List.getElem?_eq_getElem hlt]; exact List.getElem_mem hlt
                    obtain ⟨⟨hb0, hb1⟩, -⟩ := SC2.out _ hmem
                    have hb1' : rd order (i : Int) < (l3.length : Int) := by have := HLEN.out; omega
                    have HB0' := Aside0.mk hb0
                    have HB1' := Aside0.mk hb1
                    clear had' hlt hmem
                    obtain ⟨c, _, hM, hcc⟩ := Kd.R_get HT3.out (z77, 0) (rd order (i : Int)) hb0 hb1'
                    have hgd : (l3.zipIdx).getD (rd order (i : Int)).toNat (z77, 0) = (rd_T77 l3 (rd order (i : Int)), (rd order (i : Int)).toNat) := by
                      have hl : (rd order (i : Int)).toNat < l3.length := by omega
                      rw [List.getD_eq_getElem?_getD, List.getElem?_zipIdx, List.getElem?_eq_getElem hl, Nat.zero_add]
                      unfold rd_T77
                      rw [List.getD_eq_getElem?_getD, List.getElem?_eq_getElem hl]; rfl
                    rw [hgd] at hM
                    have HM := Aside0.mk (show (Kd.tag f s77).M X3 w.heap.size (fun k => ok3 k ∧ k ≠ B) (rd_T77 l3 (rd order (i : Int)), (rd order (i : Int)).toNat) c from (Kd.tag f s77).M_mono (fun k hk => ⟨hk.1, fun e => hk.2 (by rw [e]; rfl)⟩) hM)
                    clear hM hgd
                    obtain ⟨v0, v8, v9, g8, g9, rfl, h0, h8, h9⟩ := s77_open (show s77.M X3 w.heap.size (fun k => (ok3 k ∧ k ≠ B) ∧ f k = (rd order (i : Int)).toNat) (rd_T77 l3 (rd order (i : Int))) c from HM.out)
                    obtain ⟨Ac, cc, rfl, -⟩ := Kd.S_reads h0
                    obtain ⟨As, cs, rfl, -⟩ := Kd.R_reads h8
                    obtain ⟨At, ct, rfl, -⟩ := Kd.R_reads h9
                    have hBk : wr.heap[B]? = X3.heap[B]? := TG.out.block B (by
                      rintro (h | ⟨⟨h, _⟩, _⟩)
                      · have h1 := (K3.out B OB.out).2
                        have h2 := HX12.out
                        have h3 := HGG.out
                        omega
                      · exact h rfl)
                    have x : ∀ j u, [.slice Ac (rd_T77 l3 (rd order (i : Int))).f0.length cc, .int .i64 (rd_T77 l3 (rd order (i : Int))).f1.f0, .int .i64 (rd_T77 l3 (rd order (i : Int))).f1.f1, .int .i64 (rd_T77 l3 (rd order (i : Int))).f1.f2, .int .i64 (rd_T77 l3 (rd order (i : Int))).f1.f3, .int .u32 (rd_T77 l3 (rd order (i : Int))).f1.f4, .int .i64 (rd_T77 l3 (rd order (i : Int))).f1.f5, .int .i64 (rd_T77 l3 (rd order (i : Int))).f1.f6, .slice As (rd_T77 l3 (rd order (i : Int))).f1.f7.length cs, .slice At (rd_T77 l3 (rd order (i : Int))).f1.f8.length ct][j]? = some u → wr.cell? ⟨B, (rd order (i : Int)).toNat * 10 + j, none⟩ = some u := by
                      intro j u hu
                      have h := hcc j u hu
                      rw [show (Kd.tag f s77).sz = 10 from rfl, add_plain] at h
                      simp only [World.cell?, hBk]
                      exact h
                    have X := Aside0.mk x
                    clear x hcc hBk h0 h8 h9
                    obtain ⟨c', hcl', hM', hcc'⟩ := Kd.R_get RG.out (z77, 0) (i : Int) (by omega) hlti
                    have HCL := Aside0.mk hcl'
                    have HCC := Aside0.mk hcc'
                    clear hM' hcl' hcc'
                    have BKw := Aside0.mk ((TG.out.block w.heap.size (by
                      rintro (h | ⟨⟨_, h | h⟩, _⟩)
                      · have h1 := HBX2.out.size; have h2 := HGG.out; have h3 := blk_lt BKb5.out; omega
                      · have h3 := blk_lt BKb5.out; omega
                      · have h1 := K3.out _ h; have := HSZ.out; omega)).trans (blk_below BKb5.out HGR3.out))
                    have z3 : wr.cell? ⟨w.heap.size, 3, none⟩ = some (.slice (some ⟨B, 0, none⟩) l3.length cB) := (blk_cell BKw.out 3).trans rfl
                    have HMw := Aside0.mk (show (Kd.tag f s77).M wr w.heap.size (fun k => (ok3 k ∧ k ≠ B) ∧ f k = (rd order (i : Int)).toNat) (rd_T77 l3 (rd order (i : Int)), (rd order (i : Int)).toNat) [.slice Ac (rd_T77 l3 (rd order (i : Int))).f0.length cc, .int .i64 (rd_T77 l3 (rd order (i : Int))).f1.f0, .int .i64 (rd_T77 l3 (rd order (i : Int))).f1.f1, .int .i64 (rd_T77 l3 (rd order (i : Int))).f1.f2, .int .i64 (rd_T77 l3 (rd order (i : Int))).f1.f3, .int .u32 (rd_T77 l3 (rd order (i : Int))).f1.f4, .int .i64 (rd_T77 l3 (rd order (i : Int))).f1.f5, .int .i64 (rd_T77 l3 (rd order (i : Int))).f1.f6, .slice As (rd_T77 l3 (rd order (i : Int))).f1.f7.length cs, .slice At (rd_T77 l3 (rd order (i : Int))).f1.f8.length ct] from
                      (Kd.tag f s77).M_mono (fun k hk => hk) ((Kd.tag f s77).M_move (w := X3) (ok := fun k => (ok3 k ∧ k ≠ B) ∧ f k = (rd order (i : Int)).toNat) (fun k hk => TG.out.block k (by
                        rintro (h | ⟨_, j, hj, hf⟩)
                        · have h1 := (K3.out k hk.1.1).2
                          have h2 := HX12.out
                          have h3 := HGG.out
                          omega
                        · have h1 := HLT.out
                          have h2 := nodup_rd SC3.out (i := i) (j := j) h1 (by omega) (by omega)
                          have h3 := (SC2.out _ (rd_mem (xs := order) (i := (j : Int)) (by omega) (by omega))).1.1
                          have h4 := HB0'.out
                          have h5 := hk.2
                          omega)) (s77.M_mono (fun k hk => ⟨hk, hk.2⟩) HM.out)))
                    have HSG := Aside0.mk (Kd.R_seg RG.out (i : Int) (by omega) hlti HCL.out (seg := [.slice Ac (rd_T77 l3 (rd order (i : Int))).f0.length cc, .int .i64 (rd_T77 l3 (rd order (i : Int))).f1.f0, .int .i64 (rd_T77 l3 (rd order (i : Int))).f1.f1, .int .i64 (rd_T77 l3 (rd order (i : Int))).f1.f2, .int .i64 (rd_T77 l3 (rd order (i : Int))).f1.f3, .int .u32 (rd_T77 l3 (rd order (i : Int))).f1.f4, .int .i64 (rd_T77 l3 (rd order (i : Int))).f1.f5, .int .i64 (rd_T77 l3 (rd order (i : Int))).f1.f6, .slice As (rd_T77 l3 (rd order (i : Int))).f1.f7.length cs, .slice At (rd_T77 l3 (rd order (i : Int))).f1.f8.length ct]) (j := 0)
                      (fun j u hu => by have h := HCC.out j u hu; rw [add_plain] at h; exact h) (by show 0 + 10 ≤ 10; omega) (x' := (rd_T77 l3 (rd order (i : Int)), (rd order (i : Int)).toNat)) (okp := fun k => (ok3 k ∧ k ≠ B) ∧ f k = (rd order (i : Int)).toNat)
                      (by rw [List.take_zero, List.nil_append, List.drop_of_length_le (by rw [HCL.out]; show 10 ≤ 0 + 10; omega), List.append_nil]; exact HMw.out)
                      (fun k hk => ⟨.inr hk.1, by have h1 := (K3.out k hk.1.1).2; have h2 := HX12.out; have h3 := HGG.out; omega⟩))
                    have HTH := Aside0.mk (show wr.there G (i * 10) 10 from fun j hj => ⟨by
                      have hl : c'.length = 10 := HCL.out
                      have h := HCC.out j _ (List.getElem?_eq_getElem (by omega))
                      rw [Int.toNat_natCast, add_plain] at h
                      rw [show i * 10 + j = i * (Kd.tag f s77).sz + j from rfl, h]; rfl, row_frozen RG.out _⟩)
                    have HRA := Aside0.mk (show World.rangeAt wr B ((rd order (i : Int)).toNat * 10) [.slice Ac (rd_T77 l3 (rd order (i : Int))).f0.length cc, .int .i64 (rd_T77 l3 (rd order (i : Int))).f1.f0, .int .i64 (rd_T77 l3 (rd order (i : Int))).f1.f1, .int .i64 (rd_T77 l3 (rd order (i : Int))).f1.f2, .int .i64 (rd_T77 l3 (rd order (i : Int))).f1.f3, .int .u32 (rd_T77 l3 (rd order (i : Int))).f1.f4, .int .i64 (rd_T77 l3 (rd order (i : Int))).f1.f5, .int .i64 (rd_T77 l3 (rd order (i : Int))).f1.f6, .slice As (rd_T77 l3 (rd order (i : Int))).f1.f7.length cs, .slice At (rd_T77 l3 (rd order (i : Int))).f1.f8.length ct] from X.out)
                    go_wp2_with (first
                      | ((with_reducible refine gate_dst (N := 94) rfl ?_); refine wpList_load_mid rfl 77 _ rfl B ((rd order (i : Int)).toNat * 10) rfl _ _ HRA.out Try.underlying77 rfl (by kernel_rfl) ?_)
                      | ((with_reducible refine gate_ (.store 77 (.tmp 95) (.tmp 94)) rfl ?_); refine wpList_store_mid rfl 77 _ _ rfl G (i * 10) ([.slice Ac (rd_T77 l3 (rd order (i : Int))).f0.length cc, .int .i64 (rd_T77 l3 (rd order (i : Int))).f1.f0, .int .i64 (rd_T77 l3 (rd order (i : Int))).f1.f1, .int .i64 (rd_T77 l3 (rd order (i : Int))).f1.f2, .int .i64 (rd_T77 l3 (rd order (i : Int))).f1.f3, .int .u32 (rd_T77 l3 (rd order (i : Int))).f1.f4, .int .i64 (rd_T77 l3 (rd order (i : Int))).f1.f5, .int .i64 (rd_T77 l3 (rd order (i : Int))).f1.f6, .slice As (rd_T77 l3 (rd order (i : Int))).f1.f7.length cs, .slice At (rd_T77 l3 (rd order (i : Int))).f1.f8.length ct]).toArray rfl rfl HTH.out (by kernel_rfl) (all_oneCell_toArray (fun v hv => (Kd.tag f s77).K_one ((Kd.tag f s77).K_of_M HMw.out) v hv)) ?_)
                      | fail)
                    have HR4 := Aside0.mk (show (Kd.tag f s77).R 77 (wr.setCells G (i * 10) [.slice Ac (rd_T77 l3 (rd order (i : Int))).f0.length cc, .int .i64 (rd_T77 l3 (rd order (i : Int))).f1.f0, .int .i64 (rd_T77 l3 (rd order (i : Int))).f1.f1, .int .i64 (rd_T77 l3 (rd order (i : Int))).f1.f2, .int .i64 (rd_T77 l3 (rd order (i : Int))).f1.f3, .int .u32 (rd_T77 l3 (rd order (i : Int))).f1.f4, .int .i64 (rd_T77 l3 (rd order (i : Int))).f1.f5, .int .i64 (rd_T77 l3 (rd order (i : Int))).f1.f6, .slice As (rd_T77 l3 (rd order (i : Int))).f1.f7.length cs, .slice At (rd_T77 l3 (rd order (i : Int))).f1.f8.length ct]) w.heap.size (fun k => X2.heap.size ≤ k ∨ (ok3 k ∧ k ≠ B)) (.slice (some ⟨G, 0, none⟩) order.length cG) ((filled (fun b => (turnB at_ (rd_T77 l3 b), b.toNat)) (z77, order.length) order i).set i (rd_T77 l3 (rd order (i : Int)), (rd order (i : Int)).toNat)) from HSG.out.1)
                    have T4 := Aside0.mk (TG.out.sets (g := G) (.inl rfl) (i * 10) [.slice Ac (rd_T77 l3 (rd order (i : Int))).f0.length cc, .int .i64 (rd_T77 l3 (rd order (i : Int))).f1.f0, .int .i64 (rd_T77 l3 (rd order (i : Int))).f1.f1, .int .i64 (rd_T77 l3 (rd order (i : Int))).f1.f2, .int .i64 (rd_T77 l3 (rd order (i : Int))).f1.f3, .int .u32 (rd_T77 l3 (rd order (i : Int))).f1.f4, .int .i64 (rd_T77 l3 (rd order (i : Int))).f1.f5, .int .i64 (rd_T77 l3 (rd order (i : Int))).f1.f6, .slice As (rd_T77 l3 (rd order (i : Int))).f1.f7.length cs, .slice At (rd_T77 l3 (rd order (i : Int))).f1.f8.length ct])
                    generalize wr.setCells G (i * 10) [.slice Ac (rd_T77 l3 (rd order (i : Int))).f0.length cc, .int .i64 (rd_T77 l3 (rd order (i : Int))).f1.f0, .int .i64 (rd_T77 l3 (rd order (i : Int))).f1.f1, .int .i64 (rd_T77 l3 (rd order (i : Int))).f1.f2, .int .i64 (rd_T77 l3 (rd order (i : Int))).f1.f3, .int .u32 (rd_T77 l3 (rd order (i : Int))).f1.f4, .int .i64 (rd_T77 l3 (rd order (i : Int))).f1.f5, .int .i64 (rd_T77 l3 (rd order (i : Int))).f1.f6, .slice As (rd_T77 l3 (rd order (i : Int))).f1.f7.length cs, .slice At (rd_T77 l3 (rd order (i : Int))).f1.f8.length ct] = w4 at HR4 T4 ⊢
                    have RA4 := Aside0.mk (Kd.R_move (w1 := w4) RA3.out (fun k hk => T4.out.block k (by
                      subst hk
                      have h1 := HGR.out; have h2 := HBX.out.size; have h3 := HX12.out; have h4 := HGG.out; have h5 := HSn.out; have h6 := HBn.out.size
                      rintro (h | ⟨⟨_, h | h⟩, _⟩)
                      · omega
                      · omega
                      · have := (K3.out _ h).1; omega)))
                    have HFL := Aside0.mk (length_filled (F := fun b => (turnB at_ (rd_T77 l3 b), b.toNat)) (z := (z77, order.length)) (Nat.le_of_lt HLT.out))
                    have hxx : ((filled (fun b => (turnB at_ (rd_T77 l3 b), b.toNat)) (z77, order.length) order i).set i (rd_T77 l3 (rd order (i : Int)), (rd order (i : Int)).toNat))[i]? = some (rd_T77 l3 (rd order (i : Int)), (rd order (i : Int)).toNat) := List.getElem?_set_self (by rw [HFL.out]; exact HLT.out)
                    have hbm : rd_T77 l3 (rd order (i : Int)) ∈ l3 := rdB_mem ⟨HB0'.out, by have h1 := HB1'.out; have h2 := HLEN.out; omega⟩
                    refine (turn_row f G order.length cG w.heap.size i (rd order (i : Int)).toNat gA order.length cA (fun k => X2.heap.size ≤ k ∨ (ok3 k ∧ k ≠ B)) (fun k => k = gA) at_ _ (rd_T77 l3 (rd order (i : Int))) w4 HR4.out hxx RA4.out (by
                      intro k hk
                      subst hk
                      have h1 := HGR.out; have h2 := HBX.out.size; have h3 := HX12.out; have h4 := HGG.out; have h5 := HSn.out; have h6 := HBn.out.size
                      refine ⟨by omega, ?_⟩
                      rintro (h | ⟨h, _⟩)
                      · omega
                      · have := (K3.out _ h).1; omega) (by rw [HLEN.out]; exact okEnd_turn (HWK.out _ hbm)) (by have h1 := (HOK.out.2.2.2 _ hbm).2.2.1; omega) (by have h1 := (HOK.out.2.2.2 _ hbm).2.2.2; omega) (by
                      intro j p hj hp
                      rw [List.getElem?_set_ne (Ne.symm hj)] at hp
                      rcases filled_other hp with ⟨hjl, hji, rfl⟩ | rfl
                      · have h1 := HLT.out
                        have h2 := nodup_rd SC3.out (i := i) (j := j) h1 hjl (Ne.symm hj)
                        have h3 := (SC2.out _ (rd_mem (xs := order) (i := (j : Int)) (by omega) (by omega))).1.1
                        have h4 := HB0'.out
                        rw [rd_at hjl] at h2 h3
                        show order[j].toNat ≠ _
                        omega
                      · have h1 := HB1'.out
                        have h2 := HB0'.out
                        show order.length ≠ _
                        omega)).mono ?_
                    rintro e w5 ⟨rfl, hR5, hT5⟩
                    have HR5 := Aside0.mk hR5
                    have T5 := Aside0.mk hT5
                    clear hR5 hT5 hxx hbm
                    go_wp2
                    go_roundw
                    case measure => have := HLT.out; simp [intOf]; omega
                    case rel =>
                      refine ⟨i + 1, HLT.out, by go_num, ⟨?_⟩, ⟨?_⟩⟩
                      · have h := HR5.out
                        rw [List.set_set, rd_at HLT.out] at h
                        rw [← filled_set HLT.out]
                        exact h
                      · refine (T4.out.mono ?_).trans T5.out ?_
                        · rintro k (h | ⟨h, j, hj, hf⟩)
                          · exact .inl h
                          · exact .inr ⟨h, j, by omega, hf⟩
                        · rintro k (h | ⟨⟨h, _⟩, hf⟩)
                          · exact .inl h
                          · refine .inr ⟨⟨?_, ?_⟩, i, by omega, hf⟩
                            · rcases h with h | h
                              · have h1 := (K3.out B OB.out).2; have h2 := HX12.out; omega
                              · exact h.2
                            · exact h.imp (fun h => h) (fun h => h.1)
                  · obtain rfl : i = order.length := by omega
                    have hltb : decide ((order.length : Int) < (order.length : Int)) = false := decide_eq_false (by omega)
                    have BKw := Aside0.mk ((TG.out.block w.heap.size (by
                      rintro (h | ⟨⟨_, h | h⟩, _⟩)
                      · have h1 := HBX2.out.size; have h2 := HGG.out; have h3 := blk_lt BKb5.out; omega
                      · have h3 := blk_lt BKb5.out; omega
                      · have h1 := K3.out _ h; have := HSZ.out; omega)).trans (blk_below BKb5.out HGR3.out))
                    have BKv := Aside0.mk (show wr.heap[w.heap.size + 1]? = _ from (TG.out.block (w.heap.size + 1) (by
                      have h6 := HSZ.out; have h7 := HBX.out.size; have h8 := HX12.out
                      rintro (h | ⟨⟨_, h | h⟩, _⟩)
                      · have h2 := HGG.out; omega
                      · omega
                      · have h1 := K3.out _ h; omega)).trans ((HMV.out (w.heap.size + 1) (by have h6 := HSZ.out; have h7 := HBX.out.size; omega) (by omega)).trans BKr4.out))
                    have z0 : wr.cell? ⟨w.heap.size, 0, none⟩ = some (.slice A0' l0.length c0') := (blk_cell BKw.out 0).trans rfl
                    have z1 : wr.cell? ⟨w.heap.size, 1, none⟩ = some (.int .i64 a1) := (blk_cell BKw.out 1).trans rfl
                    have z2 : wr.cell? ⟨w.heap.size, 2, none⟩ = some (.slice A2' l2.length c2') := (blk_cell BKw.out 2).trans rfl
                    have z3 : wr.cell? ⟨w.heap.size, 3, none⟩ = some (.slice (some ⟨B, 0, none⟩) l3.length cB) := (blk_cell BKw.out 3).trans rfl
                    have r0 : wr.cell? ⟨w.heap.size + 1, 0, none⟩ = some (.slice none 0 0) := (blk_cell BKv.out 0).trans rfl
                    have r1 : wr.cell? ⟨w.heap.size + 1, 1, none⟩ = some (.int .i64 0) := (blk_cell BKv.out 1).trans rfl
                    have r2 : wr.cell? ⟨w.heap.size + 1, 2, none⟩ = some (.slice none 0 0) := (blk_cell BKv.out 2).trans rfl
                    have r3 : wr.cell? ⟨w.heap.size + 1, 3, none⟩ = some (.slice none 0 0) := (blk_cell BKv.out 3).trans rfl
                    have d3 := blk_frozen BKw.out 3
                    have s0 := blk_frozen BKv.out 0
                    have s1 := blk_frozen BKv.out 1
                    have s2 := blk_frozen BKv.out 2
                    have s3 := blk_frozen BKv.out 3
                    clear hlt hi hi2
                    go_wp2
                    rw [show (((((wr.setCell ⟨w.heap.size, 3, none⟩ (.slice (some ⟨G, 0, none⟩) order.length cG)).setCell ⟨w.heap.size + 1, 0, none⟩ (.slice A0' l0.length c0')).setCell ⟨w.heap.size + 1, 1, none⟩ (.int .i64 a1)).setCell ⟨w.heap.size + 1, 2, none⟩ (.slice A2' l2.length c2')).setCell ⟨w.heap.size + 1, 3, none⟩ (.slice (some ⟨G, 0, none⟩) order.length cG)) = (wr.setCell ⟨w.heap.size, 3, none⟩ (.slice (some ⟨G, 0, none⟩) order.length cG)).setCells (w.heap.size + 1) 0 [(.slice A0' l0.length c0'), (.int .i64 a1), (.slice A2' l2.length c2'), (.slice (some ⟨G, 0, none⟩) order.length cG)] from rfl]
                    have BKu := Aside0.mk ((heap_setCell_other wr ⟨w.heap.size, 3, none⟩ (w.heap.size + 1) (.slice (some ⟨G, 0, none⟩) order.length cG) (by simp)).trans BKv.out)
                    have QK := Aside0.mk (sets_all (vs := [(.slice A0' l0.length c0'), (.int .i64 a1), (.slice A2' l2.length c2'), (.slice (some ⟨G, 0, none⟩) order.length cG)]) BKu.out rfl)
                    have QB := Aside0.mk (sets_below (w0 := w) (g := w.heap.size + 1) (by omega) [(.slice A0' l0.length c0'), (.int .i64 a1), (.slice A2' l2.length c2'), (.slice (some ⟨G, 0, none⟩) order.length cG)] 0 (below_set (g := w.heap.size) (j := 3) (v := .slice (some ⟨G, 0, none⟩) order.length cG) HBw.out (Nat.le_refl _)))
                    have QT := Aside0.mk (show Touch (fun k => k = w.heap.size ∨ k = w.heap.size + 1) wr ((wr.setCell ⟨w.heap.size, 3, none⟩ (.slice (some ⟨G, 0, none⟩) order.length cG)).setCells (w.heap.size + 1) 0 [(.slice A0' l0.length c0'), (.int .i64 a1), (.slice A2' l2.length c2'), (.slice (some ⟨G, 0, none⟩) order.length cG)]) from ((Touch.refl _ wr).set (p := ⟨w.heap.size, 3, none⟩) (.inl rfl) _).sets (.inr rfl) 0 _)
                    generalize (wr.setCell ⟨w.heap.size, 3, none⟩ (.slice (some ⟨G, 0, none⟩) order.length cG)).setCells (w.heap.size + 1) 0 [(.slice A0' l0.length c0'), (.int .i64 a1), (.slice A2' l2.length c2'), (.slice (some ⟨G, 0, none⟩) order.length cG)] = W9 at QK QB QT ⊢
                    refine bodyPost_ret (results_ct rfl _ _ (w.heap.size + 1) 26 #[(.slice A0' l0.length c0'), (.int .i64 a1), (.slice A2' l2.length c2'), (.slice (some ⟨G, 0, none⟩) order.length cG)] (0, 0) _ rfl QK.out Try.underlying26 rfl (by kernel_rfl)) rfl ?_
                    have e : reorderR es ⟨l0, a1, l2, l3⟩ order = (⟨l0, a1, l2, reorderL l3 at_ order⟩, 0) := by
                      unfold reorderR
                      rw [if_neg (fun h => h.elim HNIL.out (fun h => h.elim (fun h => h HLEN.out) (fun h => h HZ.out))), HSC.out]
                    rw [e]
                    have hmv : ∀ k, wq.heap.size + 1 ≤ k → k < X1.heap.size → ¬ ok3 k → W9.heap[k]? = X1.heap[k]? := by
                      intro k h1 h2 h3
                      have h6 := HSZ.out; have h7 := HBX.out.size; have h8 := HX12.out; have h9 := HGG.out
                      refine (QT.out.block k (by omega)).trans ((TG.out.block k ?_).trans (HMV.out k h2 (by omega)))
                      rintro (h | ⟨⟨_, h | h⟩, _⟩)
                      · omega
                      · omega
                      · exact h3 h
                    have hlw : w.heap.size ≤ wq.heap.size + 1 := by have := HSZ.out; omega
                    refine ⟨_, _, _, rfl, ?_, ?_, ?_, QB.out⟩
                    · exact Kd.R_mono (Kd.R_lower (Kd.R_move P0.out (fun k hk => hmv k hk.1 hk.2.1 hk.2.2)) hlw) (fun _ _ => trivial)
                    · exact Kd.R_mono (Kd.R_lower (Kd.R_move P2.out (fun k hk => hmv k hk.1 hk.2.1 hk.2.2)) hlw) (fun _ _ => trivial)
                    · have h := Kd.R_move (w1 := W9) RG.out (fun k hk => QT.out.block k (by
                        have h6 := HSZ.out; have h7 := HBX.out.size; have h8 := HX12.out
                        rcases hk with h | ⟨h, _⟩
                        · omega
                        · have := (K3.out k h).1; omega))
                      rw [filled_all] at h
                      have h2 := R_kind (d' := k77) (f := Prod.fst) (ok' := fun _ => True) h rfl (fun _ _ => trivial) (fun x _ cs hM => k77.M_mono (fun k hk1 => ⟨trivial, hk1.1.2⟩) (s77_k77 _ _ _ _ _ hM))
                      rw [List.map_map] at h2
                      exact h2
      · have HZ := Aside0.mk hz
        have hzb : (rd order 0 != 0) = true := by simp [hz]
        have hn1 : (0 : Int) < (order.length : Int) := by have := HN1.out; omega
        clear hz
        go_wp2
        rw [show ((((W1.setCell ⟨w.heap.size + 1, 0, none⟩ (.slice none 0 0)).setCell ⟨w.heap.size + 1, 1, none⟩ (.int .i64 0)).setCell ⟨w.heap.size + 1, 2, none⟩ (.slice none 0 0)).setCell ⟨w.heap.size + 1, 3, none⟩ (.slice none 0 0)) = W1.setCells (w.heap.size + 1) 0 [(.slice none 0 0), (.int .i64 0), (.slice none 0 0), (.slice none 0 0)] from rfl]
        have QK := Aside0.mk (sets_all (vs := [(.slice none 0 0), (.int .i64 0), (.slice none 0 0), (.slice none 0 0)]) BKr1.out rfl)
        have QB := Aside0.mk (sets_below (w0 := w) (g := w.heap.size + 1) (by omega) [(.slice none 0 0), (.int .i64 0), (.slice none 0 0), (.slice none 0 0)] 0 HB1.out)
        generalize W1.setCells (w.heap.size + 1) 0 [(.slice none 0 0), (.int .i64 0), (.slice none 0 0), (.slice none 0 0)] = W9 at QK QB ⊢
        refine bodyPost_ret (results_ct rfl _ _ (w.heap.size + 1) 26 #[(.slice none 0 0), (.int .i64 0), (.slice none 0 0), (.slice none 0 0)] (0, 0) _ rfl QK.out Try.underlying26 rfl (by kernel_rfl)) rfl ?_
        have e : reorderR es ⟨l0, a1, l2, l3⟩ order = (z26, 1) := by unfold reorderR; rw [if_pos (.inr (.inr HZ.out))]
        rw [e]
        exact ⟨.slice none 0 0, .slice none 0 0, .slice none 0 0, rfl, Kd.R_nil _ _ _ _ _, Kd.R_nil _ _ _ _ _, Kd.R_nil _ _ _ _ _, QB.out⟩
    · have HLEN := Aside0.mk hlen
      have hlb : ((order.length : Int) == (l3.length : Int)) = false := by simp; omega
      have hlb2 : ((order.length : Int) != (l3.length : Int)) = true := by simp; omega
      clear hlen
      go_wp2
      rw [show ((((W1.setCell ⟨w.heap.size + 1, 0, none⟩ (.slice none 0 0)).setCell ⟨w.heap.size + 1, 1, none⟩ (.int .i64 0)).setCell ⟨w.heap.size + 1, 2, none⟩ (.slice none 0 0)).setCell ⟨w.heap.size + 1, 3, none⟩ (.slice none 0 0)) = W1.setCells (w.heap.size + 1) 0 [(.slice none 0 0), (.int .i64 0), (.slice none 0 0), (.slice none 0 0)] from rfl]
      have QK := Aside0.mk (sets_all (vs := [(.slice none 0 0), (.int .i64 0), (.slice none 0 0), (.slice none 0 0)]) BKr1.out rfl)
      have QB := Aside0.mk (sets_below (w0 := w) (g := w.heap.size + 1) (by omega) [(.slice none 0 0), (.int .i64 0), (.slice none 0 0), (.slice none 0 0)] 0 HB1.out)
      generalize W1.setCells (w.heap.size + 1) 0 [(.slice none 0 0), (.int .i64 0), (.slice none 0 0), (.slice none 0 0)] = W9 at QK QB ⊢
      refine bodyPost_ret (results_ct rfl _ _ (w.heap.size + 1) 26 #[(.slice none 0 0), (.int .i64 0), (.slice none 0 0), (.slice none 0 0)] (0, 0) _ rfl QK.out Try.underlying26 rfl (by kernel_rfl)) rfl ?_
      have e : reorderR es ⟨l0, a1, l2, l3⟩ order = (z26, 1) := by unfold reorderR; rw [if_pos (.inr (.inl HLEN.out))]
      rw [e]
      exact ⟨.slice none 0 0, .slice none 0 0, .slice none 0 0, rfl, Kd.R_nil _ _ _ _ _, Kd.R_nil _ _ _ _ _, Kd.R_nil _ _ _ _ _, QB.out⟩
end Go.Proofs.Ytocdebfbpfmnnaa.Pr
namespace Go.Proofs.Ytocdebfbpfmnnaa.Pr
open Go.RowKit Go.Proofs.YtocdebfbpfmnnaaW.PrintWords Go.Proofs.YtocdebfbpfmnnaaW.PrintLast Go.Proofs.YtocdebfbpfmnnaaW.PrintMore
set_option linter.unusedVariables false
instance (b : S77) : Decidable (okBlk b) := by unfold okBlk; exact inferInstance
instance (g : S26) : Decidable (okGr g) := by unfold okGr; exact inferInstance
def place_Reorder.f (l0 : List Int) (a1 : Int) (l2 : List S79) (l3 : List S77) (order : List Int) : Option (List Int × Int × List S79 × List S77 × Int) :=
  (place_edges.f l0 a1 l2 l3).bind fun es => if okGr ⟨l0, a1, l2, l3⟩ ∧ order.length * 8 ≤ 140737488355328 then
    some ((reorderR es ⟨l0, a1, l2, l3⟩ order).1.f0, (reorderR es ⟨l0, a1, l2, l3⟩ order).1.f1, (reorderR es ⟨l0, a1, l2, l3⟩ order).1.f2, (reorderR es ⟨l0, a1, l2, l3⟩ order).1.f3, (reorderR es ⟨l0, a1, l2, l3⟩ order).2) else none
theorem place_Reorder.calls (A0 : Option Addr) (c0 : Nat) (l0 : List Int) (a1 : Int) (A2 : Option Addr) (c2 : Nat) (l2 : List S79) (A3 : Option Addr) (c3 : Nat) (l3 : List S77) (AO : Option Addr) (cO : Nat) (order : List Int) (r0 : List Int) (r1 : Int) (r2 : List S79) (r3 : List S77) (r4 : Int) (w : World)
    (hr0 : Kd.C (Kd.int .i64) w A0 l0.length l0) (hc0 : l0.length ≤ c0) (hr2 : Kd.C k79 w A2 l2.length l2) (hc2 : l2.length ≤ c2) (hr3 : Kd.C k77 w A3 l3.length l3) (hc3 : l3.length ≤ c3) (hrO : Kd.C (Kd.int .i64) w AO order.length order) (hcO : order.length ≤ cO)
    (h : place_Reorder.f l0 a1 l2 l3 order = some (r0, r1, r2, r3, r4)) :
    Calls Try.prog 18 #[.agg #[.slice A0 l0.length c0, .int .i64 a1, .slice A2 l2.length c2, .slice A3 l3.length c3], .slice AO order.length cO] w fun e w' => ∃ v0 v2 v3 : Value, e = .returned (.tuple #[.agg #[v0, .int .i64 r1, v2, v3], .int .i64 r4]) ∧
      Kd.R (Kd.int .i64) 3 w' w.heap.size (fun _ => True) v0 r0 ∧ Kd.R k79 79 w' w.heap.size (fun _ => True) v2 r2 ∧ Kd.R k77 77 w' w.heap.size (fun _ => True) v3 r3 ∧ Below w.heap.size w w' := by
  obtain ⟨es, hes, h⟩ := Option.bind_eq_some_iff.1 h
  split at h
  · rename_i hk
    injection h with h
    injection h with e0 h
    injection h with e1 h
    injection h with e2 h
    injection h with e3 e4
    subst e0; subst e1; subst e2; subst e3; subst e4
    exact place_Reorder.told A0 c0 l0 a1 A2 c2 l2 A3 c3 l3 AO cO order es w hr0 hc0 hr2 hc2 hr3 hc3 hrO hcO hes hk.1 hk.2
  · cases h
end Go.Proofs.Ytocdebfbpfmnnaa.Pr
