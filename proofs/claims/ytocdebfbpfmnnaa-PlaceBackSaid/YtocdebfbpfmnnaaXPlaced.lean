/- place.Place: the order in which a graph's blocks are laid. -/
import Derived.Test.YtocdebfbpfmnnaaXPlainB
import Derived.Test.YtocdebfbpfmnnaaXChained
import Derived.Test.YtocdebfbpfmnnaaXReached
import Derived.Lib.SliceRun
import Derived.Test.YtocdebfbpfmnnaaXReord
import Derived.Test.YtocdebfbpfmnnaaPrS
namespace Go.Proofs.Ytocdebfbpfmnnaa.Pr
open Go.RowKit Go.Proofs.YtocdebfbpfmnnaaW.PrintWords Go.Proofs.YtocdebfbpfmnnaaW.PrintLast Go.Proofs.YtocdebfbpfmnnaaW.PrintMore
set_option linter.unusedVariables false
set_option linter.unusedSimpArgs false

/-- What place.Place asks of what it computes on its way. -/
structure PlaceWay (l3 : List S77) (es : List (List Int)) (met hs out : List Int) : Prop where
  le : l3.length ≤ 20000
  lm : met.length = l3.length
  hk : ∃ k, place_reached.f k es = some met
  sort : SortOK met (headsL (behindL (chainedL l3 es met))) hs
  some_ : 1 ≤ (headsL (behindL (chainedL l3 es met))).length
  hin : ∀ h ∈ hs, inL l3.length h
  chains : ∃ k, chainsO (chainedL l3 es met) k hs = some out
  lo : out.length ≤ 20000
theorem nextB_len {n : Nat} {b : S77} (h : okEnd n b.f1) : (nextB b).length ≤ n := by
  refine nodup_len n _ ?_ (fun x hx => h x (nextB_mem.1 hx))
  unfold nextB nextL
  exact (List.mergeSort_perm _ _).nodup_iff.2 (nodup_dedup _)
theorem chainAt_in {n : Nat} {ah met : List Int} {a : Int} {e : S74} (h : okEnd n e) : chainAt ah met a e = -1 ∨ inL n (chainAt ah met a e) := by
  obtain ⟨h5, h6, _⟩ := okEnd_turn h
  unfold chainAt
  split
  · exact .inl rfl
  · split
    · rename_i hc; exact .inr (h5 (.inl hc.1))
    · split
      · rename_i hc; exact .inr (h6 hc.1)
      · split
        · rename_i hc; exact .inr (h5 (.inr (.inl hc.1)))
        · exact .inl rfl
theorem chained_in {l3 : List S77} {tos : List (List Int)} {met : List Int} (hok : ∀ b ∈ l3, okEnd l3.length b.f1) {x : Int} (hx : x ∈ chainedL l3 tos met) : x = -1 ∨ inL l3.length x := by
  unfold chainedL at hx
  obtain ⟨a, ha, rfl⟩ := List.mem_map.1 hx
  exact chainAt_in (hok _ (rdB_mem (mem_ints.1 ha)))

def placeR (es : List (List Int)) (out : List Int) : List Int × Int := if es = [] then ([], 1) else (out, 0)
def PlacePost (w : World) (r : List Int × Int) (e : Ending) (w' : World) : Prop :=
  ∃ v0 : Value, e = .returned (.tuple #[v0, .int .i64 r.2]) ∧ Kd.R (Kd.int .i64) 3 w' w.heap.size (fun _ => True) v0 r.1 ∧ Below w.heap.size w w'
set_option maxHeartbeats 4000000 in
set_option maxRecDepth 100000 in
theorem place_Place.told (A0 : Option Addr) (c0 : Nat) (l0 : List Int) (a1 : Int) (A2 : Option Addr) (c2 : Nat) (l2 : List S79) (A3 : Option Addr) (c3 : Nat) (l3 : List S77) (es : List (List Int)) (met hs out : List Int) (w : World)
    (hr0 : Kd.C (Kd.int .i64) w A0 l0.length l0) (hc0 : l0.length ≤ c0) (hr2 : Kd.C k79 w A2 l2.length l2) (hc2 : l2.length ≤ c2) (hr3 : Kd.C k77 w A3 l3.length l3) (hc3 : l3.length ≤ c3)
    (hes : place_edges.f l0 a1 l2 l3 = some es) (hway : es ≠ [] → PlaceWay l3 es met hs out) :
    Calls Try.prog 10 #[.agg #[.slice A0 l0.length c0, .int .i64 a1, .slice A2 l2.length c2, .slice A3 l3.length c3]] w (PlacePost w (placeR es out)) := by
  have HR0 := Aside0.mk hr0
  have HC0 := Aside0.mk hc0
  have HR2 := Aside0.mk hr2
  have HC2 := Aside0.mk hc2
  have HR3 := Aside0.mk hr3
  have HC3 := Aside0.mk hc3
  have HES := Aside0.mk hes
  have HWAY := Aside0.mk hway
  clear hr0 hc0 hr2 hc2 hr3 hc3 hes hway
  have hi3 : (Try.prog.info? 3).map (fun i => (i.zero, i.size, i.bytes)) = some (some (.int .i64 0), 1, 8) := by kernel_rfl
  go_enter Try.func10, Try.ntmps10
  go_wp2_with fail
  have BKb := Aside0.mk (heap_alloc_new w (.cells #[.slice A0 l0.length c0, .int .i64 a1, .slice A2 l2.length c2, .slice A3 l3.length c3] 26))
  have HB0 := Aside0.mk (below_alloc (Below.refl w.heap.size w) (.cells #[.slice A0 l0.length c0, .int .i64 a1, .slice A2 l2.length c2, .slice A3 l3.length c3] 26))
  generalize w.alloc (.cells #[.slice A0 l0.length c0, .int .i64 a1, .slice A2 l2.length c2, .slice A3 l3.length c3] 26) = W0 at BKb HB0 ⊢
  have E0 := Aside0.mk (Kd.C_below HR0.out HB0.out)
  have E2 := Aside0.mk (Kd.C_below HR2.out HB0.out)
  have E3 := Aside0.mk (Kd.C_below HR3.out HB0.out)
  refine (place_edges.calls _ _ l0 a1 _ _ l2 _ _ l3 _ _ E0.out HC0.out E2.out HC2.out E3.out HC3.out HES.out).mono ?_
  rintro e W1 ⟨v, rfl, hRv, hBv, hn⟩
  have HRV := Aside0.mk hRv
  have HBV := Aside0.mk hBv
  have BKb1 := Aside0.mk (blk_below BKb.out HBV.out)
  have HB1 := Aside0.mk (below_then HB0.out HB0.out.size HBV.out)
  clear hRv hBv
  by_cases hnil : es = []
  · obtain rfl := hn hnil
    have HNIL := Aside0.mk hnil
    clear hn hnil
    have hq := Go.Lib.run_eql_slice_nil (P := Try.prog) W1 31 22 none 0 0 0 0 Try.underlying31
    simp only [Option.isNone_none] at hq
    go_wp2
    go_ret2
    rw [show placeR es out = ([], 1) by unfold placeR; rw [if_pos HNIL.out]]
    exact ⟨_, rfl, Kd.R_nil _ _ _ _ _, HB1.out⟩
  · obtain ⟨gE, cE, hv, -⟩ := Kd.R_form HRV.out (List.length_pos_iff.2 hnil)
    subst hv
    have HNIL := Aside0.mk hnil
    have PW := Aside0.mk (HWAY.out hnil)
    clear hn hnil
    have hq := Go.Lib.run_eql_slice_nil (P := Try.prog) W1 31 22 (some ⟨gE, 0, none⟩) es.length cE 0 0 Try.underlying31
    simp only [Option.isNone_some] at hq
    have HWK := Aside0.mk (show es = edgesL l3 ∧ (∀ b ∈ l3, okEnd l3.length b.f1) ∧ 1 ≤ l3.length by
      have h := HES.out
      have h0 := HNIL.out
      unfold place_edges.f at h
      split at h
      · rename_i h1
        split at h
        · by_cases hw : walksL l3.length l3 = true
          · rw [if_pos hw] at h
            exact ⟨(Option.some.inj h).symm, walks_iff.1 hw, h1.1⟩
          · rw [if_neg hw] at h
            exact absurd (Option.some.inj h).symm h0
        · cases h
      · exact absurd (Option.some.inj h).symm h0)
    have HLE := Aside0.mk (show es.length = l3.length by rw [HWK.out.1, edgesL, List.length_map])
    have CE := Aside0.mk (Kd.R_reads' HRV.out)
    have z0 : W1.cell? ⟨w.heap.size, 0, none⟩ = some (.slice A0 l0.length c0) := (blk_cell BKb1.out 0).trans rfl
    have z1 : W1.cell? ⟨w.heap.size, 1, none⟩ = some (.int .i64 a1) := (blk_cell BKb1.out 1).trans rfl
    have z2 : W1.cell? ⟨w.heap.size, 2, none⟩ = some (.slice A2 l2.length c2) := (blk_cell BKb1.out 2).trans rfl
    have z3 : W1.cell? ⟨w.heap.size, 3, none⟩ = some (.slice A3 l3.length c3) := (blk_cell BKb1.out 3).trans rfl
    obtain ⟨kr, hkr⟩ := PW.out.hk
    have HKR := Aside0.mk hkr
    clear hkr
    go_upto_region 5 with (first
      | ((go_at_call 33); refine (place_reached.calls kr _ _ es met _ CE.out.2.2 CE.out.2.1 HKR.out).mono ?_; rintro e W2 ⟨vm, rfl, hRm, hBm⟩; obtain ⟨AM, cM, rfl, hcM, hCM⟩ := Kd.R_reads hRm; have HCM := Aside0.mk hcM; have HM := Aside0.mk hCM; have HBM := Aside0.mk hBm; have BKb2 := Aside0.mk (blk_below BKb1.out hBm); have HB2 := Aside0.mk (below_then HB1.out HB1.out.size hBm); clear hRm hBm hcM hCM z0 z1 z2 z3)
      | fail)
    have BKm := Aside0.mk (heap_alloc_new W2 (.cells #[.slice AM met.length cM] 22))
    have HA2 := Aside0.mk (below_alloc (Below.refl W2.heap.size W2) (.cells #[.slice AM met.length cM] 22))
    generalize W2.alloc (.cells #[.slice AM met.length cM] 22) = W3 at BKm HA2 ⊢
    have BKb3 := Aside0.mk (blk_below BKb2.out HA2.out)
    have HM3 := Aside0.mk (Kd.C_below HM.out HA2.out)
    have CE3 := Aside0.mk (Kd.C_below (Kd.C_below CE.out.2.2 HBM.out) HA2.out)
    have HB3 := Aside0.mk (below_then HB2.out HB2.out.size HA2.out)
    have E33 := Aside0.mk (Kd.C_below HR3.out HB3.out)
    clear BKb2 BKb1 HM HB2
    have z0 : W3.cell? ⟨w.heap.size, 0, none⟩ = some (.slice A0 l0.length c0) := (blk_cell BKb3.out 0).trans rfl
    have z1 : W3.cell? ⟨w.heap.size, 1, none⟩ = some (.int .i64 a1) := (blk_cell BKb3.out 1).trans rfl
    have z2 : W3.cell? ⟨w.heap.size, 2, none⟩ = some (.slice A2 l2.length c2) := (blk_cell BKb3.out 2).trans rfl
    have z3 : W3.cell? ⟨w.heap.size, 3, none⟩ = some (.slice A3 l3.length c3) := (blk_cell BKb3.out 3).trans rfl
    have zm : W3.cell? ⟨W2.heap.size, 0, none⟩ = some (.slice AM met.length cM) := (blk_cell BKm.out 0).trans rfl
    go_upto_region 6 with (first
      | ((go_at_call 34); refine (place_chained.told _ _ l0 a1 _ _ l2 _ _ l3 _ _ es _ _ met _ E33.out HC3.out CE3.out CE.out.2.1 HM3.out HCM.out HWK.out.2.2 HLE.out PW.out.lm PW.out.le (by intro l hl; rw [HWK.out.1] at hl; obtain ⟨b, hb, rfl⟩ := List.mem_map.1 hl; exact ⟨Nat.le_trans (nextB_len (HWK.out.2.1 b hb)) PW.out.le, fun c hc => HWK.out.2.1 b hb c (nextB_mem.1 hc)⟩) HWK.out.2.1).mono ?_; rintro e V ⟨vx, rfl, hRx, hBx⟩; obtain ⟨AX, cX, rfl, hcX, hCX⟩ := Kd.R_reads hRx; have HCX := Aside0.mk hcX; have HX := Aside0.mk hCX; have BKmV := Aside0.mk (blk_below BKm.out hBx); have HMV := Aside0.mk (Kd.C_below HM3.out hBx); have HBV0 := Aside0.mk (below_then HB3.out HB3.out.size hBx); clear hRx hBx hcX hCX z0 z1 z2 z3 zm)
      | fail)
    have HNL := Aside0.mk (length_chainedL l3 es met)
    have HNX := Aside0.mk (show ∀ x ∈ chainedL l3 es met, x = -1 ∨ inL l3.length x from fun x hx => chained_in HWK.out.2.1 hx)
    have HSRT := Aside0.mk PW.out.sort
    have HH1 := Aside0.mk PW.out.some_
    have HHI := Aside0.mk PW.out.hin
    obtain ⟨kc, hkc⟩ := PW.out.chains
    have HCH := Aside0.mk hkc
    have HLO := Aside0.mk PW.out.lo
    have HLN := Aside0.mk PW.out.le
    have HLM := Aside0.mk PW.out.lm
    have HN1 := Aside0.mk HWK.out.2.2
    clear hkc
    clear BKb BKb3 HB0 HB1 HB3 HBV HRV E0 E2 E3 E33 HR0 HC0 HR2 HC2 HR3 HC3 HM3 CE3 HBM BKm HA2 HKR hq HES HWAY CE
    clear HCM PW
    generalize hnx : chainedL l3 es met = next at HNL HNX HX HCX HSRT HCH HH1 ⊢
    clear hnx
    have HGM := Aside0.mk (blk_lt BKmV.out)
    go_upto_region 7 with (first
      | ((with_reducible refine gate_dst (N := 28) rfl ?_); refine Kd.R_make (Kd.int .i64) (w0 := V) V.heap.size 3 rfl rfl 22 _ _ rfl (es.length : Int) rfl rfl Try.underlying22 (.int .i64 0) 8 hi3 rfl (by decide) (by decide) (0 : Int) (ok := fun _ => True) (okp := fun _ => False) rfl (fun _ h => h.elim) trivial (by omega) (by simp; have := HLE.out; have := HLN.out; omega) (Below.refl _ _) (Nat.le_refl _) ?_; intro v1 V1 hR1 hB1 hG1 hO1; rw [Int.toNat_natCast] at hR1; obtain ⟨gB, cB, hv, hgb, hgl, -⟩ := Kd.R_form hR1 (by rw [List.length_replicate]; have := HN1.out; have := HLE.out; omega); rw [List.length_replicate] at hv; subst hv; have HB1 := Aside0.mk hB1; have RB := Aside0.mk (int_own hR1); clear hR1 hgb hgl hO1 hB1 hG1)
      | fail)
    rename_i K2 a2
    go_upto_region 13 with (fail)
    go_loopw [31] (fun v31 wr => ∃ q : Nat, q ≤ next.length ∧ v31 = .int .i64 (q : Int) ∧ Aside0 ((Kd.int .i64).R 3 wr V.heap.size (fun k => k = gB) (.slice (some ⟨gB, 0, none⟩) es.length cB) ((next.take q).foldl bump (List.replicate es.length 0))) ∧ Aside0 (countIn q ((next.take q).foldl bump (List.replicate es.length 0))) ∧ Aside0 (Below V.heap.size V wr)) (fun v31 _ => next.length - (intOf v31).toNat)
    case atStart => exact ⟨0, Nat.zero_le _, rfl, RB, ⟨by intro x hx; rw [List.take_zero, List.foldl_nil] at hx; rw [List.eq_of_mem_replicate hx]; omega⟩, HB1⟩
    case round =>
      clear RB HB1
      obtain ⟨q, hq, rfl, RB, CB, HB1⟩ := hrel
      have hq2 : (q : Int) + 1 ≤ 9223372036854775807 := by have := HNL.out; have := HLN.out; omega
      by_cases hlt : q < next.length
      · have HQ := Aside0.mk hlt
        have hltb : decide ((q : Int) < (next.length : Int)) = true := decide_eq_true (by omega)
        have hlti : (q : Int) < (next.length : Int) := by omega
        obtain ⟨ad, rfl, q0⟩ := Kd.at_int (Kd.C_below HX.out HB1.out) (q : Int) (by omega) hlti
        rw [Int.toNat_natCast] at q0
        have HIX := Aside0.mk (HNX.out _ (rd_mem (xs := next) (i := (q : Int)) (by omega) hlti))
        clear hlt
        by_cases hc : 0 ≤ rd next (q : Int)
        · have hcb : decide (rd next (q : Int) ≥ 0) = true := decide_eq_true hc
          have hcb2 : decide (0 ≤ rd next (q : Int)) = true := decide_eq_true hc
          have hc1 : rd next (q : Int) < (es.length : Int) := by
            have h1 := HIX.out; have h2 := HLE.out
            rcases h1 with h1 | h1
            · omega
            · have := h1.2; omega
          have HC0 := Aside0.mk hc
          have HC1 := Aside0.mk hc1
          have qc : wr.cell? ⟨gB, (rd next (q : Int)).toNat, none⟩ = some (.int .i64 (rd ((next.take q).foldl bump (List.replicate es.length 0)) (rd next (q : Int)))) := int_cell RB.out (rd next (q : Int)).toNat (by omega)
          have qf := row_frozen RB.out (rd next (q : Int)).toNat
          obtain ⟨hcb0, hcb1⟩ : 0 ≤ rd ((next.take q).foldl bump (List.replicate es.length 0)) (rd next (q : Int)) ∧ rd ((next.take q).foldl bump (List.replicate es.length 0)) (rd next (q : Int)) + 1 ≤ 9223372036854775807 := by
            have h1 := rd_countIn CB.out (rd next (q : Int))
            exact ⟨h1.1, by have := h1.2; omega⟩
          go_wp2
          go_roundw
          case measure => have := HQ.out; simp [intOf]; omega
          case rel =>
            refine ⟨q + 1, HQ.out, by go_num, ⟨?_⟩, ⟨?_⟩, ⟨?_⟩⟩
            · have h := int_set RB.out (rd next (q : Int)).toNat (by have := HC0.out; have := HC1.out; omega) (rd ((next.take q).foldl bump (List.replicate es.length 0)) (rd next (q : Int)) + 1)
              rw [bump_step HQ.out]
              unfold bump
              rw [if_pos HC0.out]
              exact h
            · rw [bump_step HQ.out]; exact countIn_bump CB.out _
            · exact below_set HB1.out (Kd.R_base RB.out gB rfl)
        · have hcb : decide (rd next (q : Int) ≥ 0) = false := decide_eq_false hc
          have hcb2 : decide (0 ≤ rd next (q : Int)) = false := decide_eq_false hc
          have HC0 := Aside0.mk hc
          clear hc
          go_wp2
          go_roundw
          case measure => have := HQ.out; simp [intOf]; omega
          case rel =>
            refine ⟨q + 1, HQ.out, by go_num, ⟨?_⟩, ⟨?_⟩, HB1⟩
            · rw [bump_step HQ.out]
              unfold bump
              rw [if_neg HC0.out]
              exact RB.out
            · rw [bump_step HQ.out]; exact countIn_bump CB.out _
      · obtain rfl : q = next.length := by omega
        have hltb : decide ((next.length : Int) < (next.length : Int)) = false := decide_eq_false (by omega)
        have RBH := Aside0.mk (show (Kd.int .i64).R 3 wr V.heap.size (fun k => k = gB) (.slice (some ⟨gB, 0, none⟩) es.length cB) (behindL next) by
          have h := RB.out
          rw [List.take_of_length_le (Nat.le_refl _)] at h
          rw [behindL, show next.length = es.length by have := HNL.out; have := HLE.out; omega]
          exact h)
        obtain ⟨wb, rfl⟩ : ∃ wb : World, wb = wr := ⟨_, rfl⟩
        clear hlt RB CB hq hq2
        have hTb : (0 : Int) ≤ (es.length : Int) := by omega
        go_upto_region 14 with (first
          | ((with_reducible refine gate_dst (N := 46) rfl ?_); refine R_make0 (w0 := V) V.heap.size 3 rfl rfl 22 _ _ rfl es.length rfl rfl Try.underlying22 hi3 (ok := fun k => k ≠ gB) (by have h1 := Kd.R_lt RBH.out gB rfl; omega) (by have := HLE.out; have := HLN.out; omega) HB1.out HB1.out.size ?_; intro v1 w1 hR1 hB1 hG1 hO1; have RH := Aside0.mk hR1; have HB2 := Aside0.mk hB1; have RB2 := Aside0.mk (Kd.R_grown RBH.out hG1 (fun _ _ => by simp)); clear hR1 hB1 hG1 hO1)
          | fail)
        go_upto_region 20 with (fail)
        go_loopw [10, 49] (fun v10 v49 wr => ∃ q : Nat, q ≤ es.length ∧ v49 = .int .i64 (q : Int) ∧ Aside0 ((Kd.int .i64).R 3 wr V.heap.size (fun k => k ≠ gB) v10 (((ints es.length).take q).filter (fun b => rd (behindL next) b == 0))) ∧ Aside0 ((Kd.int .i64).R 3 wr V.heap.size (fun k => k = gB) (.slice (some ⟨gB, 0, none⟩) es.length cB) (behindL next)) ∧ Aside0 (Below V.heap.size V wr)) (fun v10 v49 _ => es.length - (intOf v49).toNat)
        case atStart => exact ⟨0, Nat.zero_le _, rfl, ⟨by rw [List.take_zero]; exact RH.out⟩, RB2, HB2⟩
        case round =>
          clear RH RB2 HB2
          obtain ⟨q, hq, rfl, RH, RB, HB2⟩ := hrel
          have hq2 : (q : Int) + 1 ≤ 9223372036854775807 := by have := HLE.out; have := HLN.out; omega
          obtain ⟨AH, cH, rfl⟩ := Kd.R_slice RH.out
          by_cases hlt : q < es.length
          · have HQ := Aside0.mk hlt
            have hltb : decide ((q : Int) < (es.length : Int)) = true := decide_eq_true (by omega)
            have hlti : (q : Int) < (es.length : Int) := by omega
            have hqq : ((q : Int)).toNat < es.length := by omega
            have q0 : wr.cell? ⟨gB, q, none⟩ = some (.int .i64 (rd (behindL next) (q : Int))) := int_cell RB.out q (by omega)
            clear hlt hqq
            by_cases hp : rd (behindL next) (q : Int) = 0
            · have hpb : (rd (behindL next) (q : Int) == 0) = true := by simp [hp]
              have HP := Aside0.mk hpb
              clear hp
              go_wp2_with (first
                | (at_builtin; refine Kd.R_append (Kd.int .i64) (w0 := V) V.heap.size rfl (.tmp 57) (.tmp 59) 22 3 (.int .i64 0) 8 rfl Try.underlying22 hi3 rfl (by decide) (by decide) (.slice AH (((ints es.length).take q).filter (fun b => rd (behindL next) b == 0)).length cH) (((ints es.length).take q).filter (fun b => rd (behindL next) b == 0)) (q : Int) [.int .i64 (q : Int)] (fun k => k ≠ gB) (fun _ => False) rfl rfl rfl (fun _ hk => hk.elim) (fun k hk => by have h1 := Kd.R_lt RB.out gB rfl; omega) RH.out HB2.out HB2.out.size (by have h1 := List.length_filter_le (fun b => rd (behindL next) b == 0) ((ints es.length).take q); have h2 := List.length_take_le q (ints es.length); have h3 := HQ.out; have h4 := HLE.out; have h5 := HLN.out; omega) ?_; intro v2 w2 hR2 hB3 hG2 hat; have RH2 := Aside0.mk hR2; have HB3 := Aside0.mk hB3; have RB2 := Aside0.mk (Kd.R_grown RB.out hG2 (fun k hk he => by subst hk; exact RH.out.1 _ he.symm rfl)); clear hR2 hB3 hG2 hat)
                | fail)
              go_roundw
              case measure => have := HQ.out; simp [intOf]; omega
              case rel => exact ⟨q + 1, HQ.out, by go_num, ⟨by rw [filter_step _ HQ.out, if_pos HP.out]; exact RH2.out⟩, RB2, HB3⟩
            · have hpb : (rd (behindL next) (q : Int) == 0) = false := by simp [hp]
              have HP := Aside0.mk hpb
              clear hp
              go_wp2
              go_roundw
              case measure => have := HQ.out; simp [intOf]; omega
              case rel => exact ⟨q + 1, HQ.out, by go_num, ⟨by rw [filter_step _ HQ.out, if_neg (by rw [HP.out]; simp), List.append_nil]; exact RH.out⟩, RB, HB2⟩
          · obtain rfl : q = es.length := by omega
            have hltb : decide ((es.length : Int) < (es.length : Int)) = false := decide_eq_false (by omega)
            have HHD := Aside0.mk (show (((ints es.length).take es.length).filter (fun b => rd (behindL next) b == 0)) = headsL (behindL next) by
              rw [List.take_of_length_le (by rw [length_ints]; exact Nat.le_refl _), headsL, length_behindL, show next.length = es.length by have := HNL.out; have := HLE.out; omega])
            rw [HHD.out] at RH ⊢
            generalize headsL (behindL next) = heads at RH HSRT HH1 ⊢
            obtain ⟨gH, cH', hv, -⟩ := Kd.R_form RH.out HH1.out
            injection hv with hv1 hv2 hv3
            subst hv1
            subst hv3
            clear hv2
            have hmf : ∀ (fn : Fn) (first cap : Array Value) (w : World), (Instr.makeFunc fn first cap).run Try.prog w = .ok (.func fn first cap) w := fun _ _ _ _ => rfl
            have zm : wr.cell? ⟨W2.heap.size, 0, none⟩ = some (.slice AM met.length cM) := (blk_cell (blk_below BKmV.out HB2.out) 0).trans rfl
            have HGH := Aside0.mk (Kd.R_base RH.out gH rfl)
            have HSC := Aside0.mk (HSRT.out gH cH W2.heap.size cM V.heap.size AM (fun k => k ≠ gB) wr RH.out zm (Kd.C_below HMV.out HB2.out) (by have h1 := HGM.out; have h2 := HGH.out; omega) (by
              intro a ha
              obtain ⟨ad, hA, hc⟩ := Kd.at_int HMV.out 0 (by omega) (by have h1 := HLM.out; have h2 := HN1.out; omega)
              rw [ha] at hA
              injection hA with hA
              subst hA
              have h3 := World.block_lt_of_cell? _ _ hc
              have h4 := HGH.out
              have h5 : (a.add (0 : Int).toNat).block = a.block := by unfold Addr.add; split <;> rfl
              omega))
            clear hlt HHD hltb zm RH RB hq hq2
            obtain ⟨wc, rfl⟩ : ∃ wc : World, wc = wr := ⟨_, rfl⟩
            go_upto_region 22 with (first
              | ((go_at_call 35); refine (HSC.out).mono ?_; rintro e w3 ⟨rfl, hR3, hT3⟩; have RS := Aside0.mk (int_own hR3); have HB3 := Aside0.mk (hT3.below HB2.out (fun k hk => by subst hk; exact HGH.out)); have HHL := Aside0.mk (Kd.R_reads' hR3).1; clear hR3 hT3)
              | ((with_reducible refine gate_dst (N := 67) rfl ?_); refine R_make0 (w0 := V) V.heap.size 3 rfl rfl 22 _ _ rfl es.length rfl rfl Try.underlying22 hi3 (ok := fun k => k ≠ gH) (by have h1 := Kd.R_lt RS.out gH rfl; omega) (by have := HLE.out; have := HLN.out; omega) HB3.out HB3.out.size ?_; intro v4 w4 hR4 hB4 hG4 hO4; have RO := Aside0.mk hR4; have HB4 := Aside0.mk hB4; have RS4 := Aside0.mk (Kd.R_grown RS.out hG4 (fun _ _ => by simp)); clear hR4 hB4 hG4 hO4)
              | fail)
            go_upto_region 30 with (fail)
            rename_i K9 a9
            go_loopw [12, 70] (fun v12 v70 wr => ∃ (q : Nat) (done rest : List Int), q ≤ heads.length ∧ v70 = .int .i64 (q : Int) ∧ Aside0 ((Kd.int .i64).R 3 wr V.heap.size (fun k => k ≠ gH) v12 done) ∧ Aside0 (done ++ rest = out) ∧ Aside0 (chainsO next kc (hs.drop q) = some rest) ∧ Aside0 ((Kd.int .i64).R 3 wr V.heap.size (fun k => k = gH) (.slice (some ⟨gH, 0, none⟩) heads.length cH) hs) ∧ Aside0 (Below V.heap.size V wr)) (fun v12 v70 _ => heads.length - (intOf v70).toNat)
            case atStart => exact ⟨0, [], out, Nat.zero_le _, rfl, RO, ⟨rfl⟩, ⟨by rw [List.drop_zero]; exact HCH.out⟩, RS4, HB4⟩
            case round =>
              clear RO RS4 HB4
              obtain ⟨q, done, rest, hq, rfl, RO, HDR, HCQ, RS4, HB4⟩ := hrel
              by_cases hlt : q < heads.length
              · have HQ := Aside0.mk hlt
                have hltb : decide ((q : Int) < (heads.length : Int)) = true := decide_eq_true (by omega)
                have hlti : (q : Int) < (heads.length : Int) := by omega
                have hq2 : (q : Int) + 1 ≤ 9223372036854775807 := by have h1 := HHL.out; have h2 := (Kd.R_reads' RS4.out).2.2.2.1; omega
                have q0 : wr.cell? ⟨gH, q, none⟩ = some (.int .i64 (rd hs (q : Int))) := int_cell RS4.out q hlt
                have HC0 := Aside0.mk (show ∃ l rest', chainO next kc (rd hs (q : Int)) = some l ∧ chainsO next kc (hs.drop (q + 1)) = some rest' ∧ rest = l ++ rest' by
                  have h := HCQ.out
                  rw [drop_rd2 hs q (by have := HHL.out; omega), chainsO] at h
                  obtain ⟨l, h1, h2⟩ := Option.bind_eq_some_iff.1 h
                  obtain ⟨r, h3, h4⟩ := Option.map_eq_some_iff.1 h2
                  exact ⟨l, r, h1, h3, h4.symm⟩)
                obtain ⟨l, rest', hc1, hc2, rfl⟩ := HC0.out
                have HC1 := Aside0.mk hc1
                have HC2 := Aside0.mk hc2
                have HIH := Aside0.mk (HHI.out _ (rd_mem (xs := hs) (i := (q : Int)) (by omega) (by have := HHL.out; omega)))
                clear hc1 hc2 HC0 HCQ hlt
                go_wp2
                obtain ⟨wd, rfl⟩ : ∃ wd : World, wd = wr := ⟨_, rfl⟩
                go_loopg [12, 15] kc (fun gg v12 v15 wr => ∃ (b : Int) (done' l' : List Int), v15 = .int .i64 b ∧ Aside0 (chainO next gg b = some l') ∧ Aside0 (done' ++ (l' ++ rest') = out) ∧ Aside0 ((Kd.int .i64).R 3 wr V.heap.size (fun k => k ≠ gH) v12 done') ∧ Aside0 ((Kd.int .i64).R 3 wr V.heap.size (fun k => k = gH) (.slice (some ⟨gH, 0, none⟩) heads.length cH) hs) ∧ Aside0 (Below V.heap.size V wr) ∧ Aside0 (b < 0 ∨ inL l3.length b))
                case atStart => exact ⟨_, _, _, rfl, HC1, HDR, RO, RS4, HB4, ⟨.inr HIH.out⟩⟩
                case round =>
                  clear HC1 HDR RO RS4 HB4 q0
                  obtain ⟨b, done', l', rfl, HC1, HDR, RO, RS4, HB4, HBI⟩ := hrel
                  cases gk with
                  | zero => exact absurd HC1.out (by simp [chainO])
                  | succ k1 =>
                  by_cases hb : 0 ≤ b
                  · have hbb : decide (b ≥ 0) = true := decide_eq_true hb
                    have hbb2 : decide (0 ≤ b) = true := decide_eq_true hb
                    have HIB := Aside0.mk (show inL l3.length b by
                      rcases HBI.out with h | h
                      · omega
                      · exact h)
                    have hbl : b < (next.length : Int) := by have := HIB.out.2; have := HNL.out; omega
                    have HC3 := Aside0.mk (show ∃ l2, chainO next k1 (rd next b) = some l2 ∧ l' = b :: l2 by
                      have h := HC1.out
                      rw [chainO, if_neg (by omega)] at h
                      obtain ⟨r, h3, h4⟩ := Option.map_eq_some_iff.1 h
                      exact ⟨r, h3, h4.symm⟩)
                    obtain ⟨l2, hc3, rfl⟩ := HC3.out
                    have HC4 := Aside0.mk hc3
                    have HNB := Aside0.mk (show rd next b < 0 ∨ inL l3.length (rd next b) by
                      rcases HNX.out _ (rd_mem (xs := next) hb hbl) with h | h
                      · exact .inl (by omega)
                      · exact .inr h)
                    obtain ⟨AO, cO, rfl⟩ := Kd.R_slice RO.out
                    have HLD := Aside0.mk (show done'.length + 1 ≤ 20000 by
                      have h1 := congrArg List.length HDR.out
                      have h2 := HLO.out
                      simp only [List.length_append, List.length_cons] at h1
                      omega)
                    clear hc3 HC3
                    go_wp2_with (first
                      | (at_builtin; refine Kd.R_append (Kd.int .i64) (w0 := V) V.heap.size rfl (.tmp 81) (.tmp 83) 22 3 (.int .i64 0) 8 rfl Try.underlying22 hi3 rfl (by decide) (by decide) (.slice AO done'.length cO) done' b [.int .i64 b] (fun k => k ≠ gH) (fun _ => False) rfl rfl rfl (fun _ hk => hk.elim) (fun k hk => by have h1 := Kd.R_lt RS4.out gH rfl; omega) RO.out HB4.out HB4.out.size (by have h1 := HLD.out; omega) ?_; intro v5 w5 hR5 hB5 hG5 hat; have RO5 := Aside0.mk hR5; have HB5 := Aside0.mk hB5; have RS5 := Aside0.mk (Kd.R_grown RS4.out hG5 (fun k hk he => by subst hk; exact RO.out.1 _ he.symm rfl)); clear hR5 hB5 hG5 hat; obtain ⟨ad, hA, qn⟩ := Kd.at_int (Kd.C_below HX.out HB5.out) b hb hbl; subst hA)
                      | fail)
                    go_roundg k1
                    case measure => omega
                    case rel => exact ⟨_, _, _, rfl, HC4, ⟨by rw [List.append_assoc]; exact HDR.out⟩, RO5, RS5, HB5, HNB⟩
                  · have hbb : decide (b ≥ 0) = false := decide_eq_false hb
                    have hbb2 : decide (0 ≤ b) = false := decide_eq_false hb
                    have HLE0 := Aside0.mk (show l' = [] by
                      have h := HC1.out
                      rw [chainO, if_pos (by omega)] at h
                      exact (Option.some.inj h).symm)
                    clear hb
                    go_wp2
                    go_roundw
                    case measure => have := HQ.out; simp [intOf]; omega
                    case rel => exact ⟨q + 1, _, _, HQ.out, by go_num, RO, ⟨by have h := HDR.out; rw [HLE0.out] at h; exact h⟩, HC2, RS4, HB4⟩
              · obtain rfl : q = heads.length := by omega
                have hltb : decide ((heads.length : Int) < (heads.length : Int)) = false := decide_eq_false (by omega)
                have HOUT := Aside0.mk (show done = out by
                  have h := HCQ.out
                  rw [List.drop_of_length_le (by have := HHL.out; omega), chainsO] at h
                  have h2 := HDR.out
                  rw [← Option.some.inj h, List.append_nil] at h2
                  exact h2)
                clear hlt
                go_wp2
                go_ret2
                rw [show placeR es out = (out, 0) by unfold placeR; rw [if_neg HNIL.out]]
                exact ⟨_, rfl, by rw [← HOUT.out]; exact Kd.R_lower (Kd.R_mono RO.out (fun _ _ => trivial)) HBV0.out.size, below_then HBV0.out HBV0.out.size HB4.out⟩
end Go.Proofs.Ytocdebfbpfmnnaa.Pr
namespace Go.Proofs.Ytocdebfbpfmnnaa.Pr
open Go.RowKit Go.Proofs.YtocdebfbpfmnnaaW.PrintWords Go.Proofs.YtocdebfbpfmnnaaW.PrintLast Go.Proofs.YtocdebfbpfmnnaaW.PrintMore
set_option linter.unusedVariables false
def place_Place.f (l0 : List Int) (a1 : Int) (l2 : List S79) (l3 : List S77) : Option (List Int × Int) :=
  (place_edges.f l0 a1 l2 l3).bind fun es => if es = [] then some ([], 1) else
    (place_reached.f 100 es).bind fun met =>
      if l3.length ≤ 20000 ∧ met.length = l3.length ∧ (headsL (behindL (chainedL l3 es met))).length = 1 ∧ (headsL (behindL (chainedL l3 es met))).all (fun h => decide (0 ≤ h) && decide (h < (l3.length : Int))) = true then
        (chainsO (chainedL l3 es met) 100 (headsL (behindL (chainedL l3 es met)))).bind fun out => if out.length ≤ 20000 then some (out, 0) else none
      else none
theorem place_Place.calls (A0 : Option Addr) (c0 : Nat) (l0 : List Int) (a1 : Int) (A2 : Option Addr) (c2 : Nat) (l2 : List S79) (A3 : Option Addr) (c3 : Nat) (l3 : List S77) (r0 : List Int) (r1 : Int) (w : World)
    (hr0 : Kd.C (Kd.int .i64) w A0 l0.length l0) (hc0 : l0.length ≤ c0) (hr2 : Kd.C k79 w A2 l2.length l2) (hc2 : l2.length ≤ c2) (hr3 : Kd.C k77 w A3 l3.length l3) (hc3 : l3.length ≤ c3)
    (h : place_Place.f l0 a1 l2 l3 = some (r0, r1)) :
    Calls Try.prog 10 #[.agg #[.slice A0 l0.length c0, .int .i64 a1, .slice A2 l2.length c2, .slice A3 l3.length c3]] w fun e w' => ∃ v0 : Value, e = .returned (.tuple #[v0, .int .i64 r1]) ∧
      Kd.R (Kd.int .i64) 3 w' w.heap.size (fun _ => True) v0 r0 ∧ Below w.heap.size w w' := by
  obtain ⟨es, hes, h⟩ := Option.bind_eq_some_iff.1 h
  by_cases hnil : es = []
  · rw [if_pos hnil] at h
    have ht := place_Place.told A0 c0 l0 a1 A2 c2 l2 A3 c3 l3 es [] [] [] w hr0 hc0 hr2 hc2 hr3 hc3 hes (fun hn => absurd hnil hn)
    rw [show placeR es [] = ([], 1) by unfold placeR; rw [if_pos hnil]] at ht
    injection h with h
    injection h with e0 e1
    subst e0; subst e1
    exact ht
  · rw [if_neg hnil] at h
    obtain ⟨met, hm, h⟩ := Option.bind_eq_some_iff.1 h
    split at h
    · rename_i hk
      obtain ⟨h1, h2, h3, h4⟩ := hk
      obtain ⟨out, ho, h⟩ := Option.bind_eq_some_iff.1 h
      split at h
      · rename_i h5
        have ht := place_Place.told A0 c0 l0 a1 A2 c2 l2 A3 c3 l3 es met _ out w hr0 hc0 hr2 hc2 hr3 hc3 hes (fun _ => ⟨h1, h2, ⟨_, hm⟩, sortOK_one (by omega), by omega, fun x hx => by
          have := List.all_eq_true.1 h4 x hx
          simp only [Bool.and_eq_true, decide_eq_true_eq] at this
          exact this, ⟨_, ho⟩, h5⟩)
        rw [show placeR es out = (out, 0) by unfold placeR; rw [if_neg hnil]] at ht
        injection h with h
        injection h with e0 e1
        subst e0; subst e1
        exact ht
      · cases h
    · cases h
instance (n : Nat) (i : Int) : Decidable (inL n i) := by unfold inL; exact inferInstance
instance (n : Nat) (e : S74) : Decidable (okEnd n e) := by unfold okEnd; exact inferInstance
theorem nextL_one (x : Int) : nextL [x] = [x] := by simp [nextL, dedup]
def liveB : List S77 := [⟨[], ⟨1, 0, 0, 0, 0, 2, 0, [], []⟩⟩, ⟨[], ⟨5, 0, -1, 0, 0, 0, 0, [], []⟩⟩, ⟨[], ⟨1, 0, 0, 0, 0, 1, 0, [], []⟩⟩]
theorem live_next : liveB.map nextB = [[2], [], [1]] := by
  simp only [liveB, List.map_cons, List.map_nil, nextB, targetsOf]
  simp [nextL_one, nextL_nil]
theorem live_edges : place_edges.f [] 0 [] liveB = some [[2], [], [1]] := by
  unfold place_edges.f
  rw [if_pos (by decide), if_pos (by decide), if_pos ?_]
  · rw [edgesL, live_next]
  · rw [walks_iff]
    decide
theorem live_place : place_Place.f [] 0 [] liveB = some ([0, 2, 1], 0) := by
  unfold place_Place.f
  rw [live_edges, Option.bind_some, if_neg (by decide)]
  decide +kernel
theorem live_reorder : place_Reorder.f [] 0 [] liveB [0, 2, 1] = some ([], 0, [], [⟨[], ⟨1, 0, 0, 0, 0, 1, 0, [], []⟩⟩, ⟨[], ⟨1, 0, 0, 0, 0, 2, 0, [], []⟩⟩, ⟨[], ⟨5, 0, -1, 0, 0, 0, 0, [], []⟩⟩], 0) := by
  unfold place_Reorder.f
  rw [live_edges, Option.bind_some, if_pos (by decide)]
  rfl
end Go.Proofs.Ytocdebfbpfmnnaa.Pr
namespace Go.Proofs.Ytocdebfbpfmnnaa.Pr
open Go.RowKit Go.Proofs.YtocdebfbpfmnnaaW.PrintWords Go.Proofs.YtocdebfbpfmnnaaW.PrintLast Go.Proofs.YtocdebfbpfmnnaaW.PrintMore
set_option linter.unusedVariables false
set_option linter.unusedSimpArgs false
def liveX : List S77 := [⟨[], ⟨1, 0, 0, 0, 0, 1, 0, [], []⟩⟩, ⟨[], ⟨1, 0, 0, 0, 0, 2, 0, [], []⟩⟩, ⟨[], ⟨5, 0, -1, 0, 0, 0, 0, [], []⟩⟩]
set_option maxHeartbeats 4000000 in
set_option maxRecDepth 100000 in
theorem live15.calls (w : World) : Calls Try.prog 12 #[] w fun e w' => e = .returned (.bool true) ∧ Below w.heap.size w w' := by
  go_enter Try.func12, Try.ntmps12
  go_upto_region 2 with (first
    | ((with_reducible refine gate_dst (N := 12) rfl ?_); refine Kd.R_lit k77 (w0 := w) w.heap.size 77 ?hg (N := 12) ?hd (xs := liveB) (inner := [.slice none 0 0, .int .i64 1, .int .i64 0, .int .i64 0, .int .i64 0, .int .u32 0, .int .i64 2, .int .i64 0, .slice none 0 0, .slice none 0 0, .slice none 0 0, .int .i64 5, .int .i64 0, .int .i64 (-1), .int .i64 0, .int .u32 0, .int .i64 0, .int .i64 0, .slice none 0 0, .slice none 0 0, .slice none 0 0, .int .i64 1, .int .i64 0, .int .i64 0, .int .i64 0, .int .u32 0, .int .i64 1, .int .i64 0, .slice none 0 0, .slice none 0 0]) (ok := fun _ => True) (okp := fun _ => True) ?hr ?hp (fun _ hk => hk) trivial (Below.refl _ _) (Nat.le_refl _) (by decide) ?_; (case hd => rfl); (case hg => rfl); (case hr => first | (go_simp; done) | (go_simp; rfl)); (case hp => exact (Reps.c10 (show Kd.M k77 _ _ _ (⟨([] : List (S90)), (⟨1, 0, 0, 0, 0, 2, 0, ([] : List (S85)), ([] : List Int)⟩ : S74)⟩ : S77) [.slice none 0 0, .int .i64 1, .int .i64 0, .int .i64 0, .int .i64 0, .int .u32 0, .int .i64 2, .int .i64 0, .slice none 0 0, .slice none 0 0] from (k77_mkM _ _ _ (⟨([] : List (S90)), (⟨1, 0, 0, 0, 0, 2, 0, ([] : List (S85)), ([] : List Int)⟩ : S74)⟩ : S77) (Kd.R_nil _ _ _ _ _) (Kd.R_nil _ _ _ _ _) (Kd.R_nil _ _ _ _ _))) (Reps.c10 (show Kd.M k77 _ _ _ (⟨([] : List (S90)), (⟨5, 0, (-1), 0, 0, 0, 0, ([] : List (S85)), ([] : List Int)⟩ : S74)⟩ : S77) [.slice none 0 0, .int .i64 5, .int .i64 0, .int .i64 (-1), .int .i64 0, .int .u32 0, .int .i64 0, .int .i64 0, .slice none 0 0, .slice none 0 0] from (k77_mkM _ _ _ (⟨([] : List (S90)), (⟨5, 0, (-1), 0, 0, 0, 0, ([] : List (S85)), ([] : List Int)⟩ : S74)⟩ : S77) (Kd.R_nil _ _ _ _ _) (Kd.R_nil _ _ _ _ _) (Kd.R_nil _ _ _ _ _))) (Reps.c10 (show Kd.M k77 _ _ _ (⟨([] : List (S90)), (⟨1, 0, 0, 0, 0, 1, 0, ([] : List (S85)), ([] : List Int)⟩ : S74)⟩ : S77) [.slice none 0 0, .int .i64 1, .int .i64 0, .int .i64 0, .int .i64 0, .int .u32 0, .int .i64 1, .int .i64 0, .slice none 0 0, .slice none 0 0] from (k77_mkM _ _ _ (⟨([] : List (S90)), (⟨1, 0, 0, 0, 0, 1, 0, ([] : List (S85)), ([] : List Int)⟩ : S74)⟩ : S77) (Kd.R_nil _ _ _ _ _) (Kd.R_nil _ _ _ _ _) (Kd.R_nil _ _ _ _ _))) (Reps.none _ _))))); intro v1 W1 hR1 hB1 hG1 hO1; obtain ⟨g1, k1, rfl, hk1, hC1⟩ := Kd.R_reads hR1; have HK1 := Aside0.mk hk1; have HC1 := Aside0.mk hC1; have HB1 := Aside0.mk hB1; clear hR1 hB1 hG1 hO1 hk1 hC1)
    | fail)
  have hl3 : liveB.length = 3 := rfl
  have BKg := Aside0.mk (heap_alloc_new W1 (.cells #[.slice none 0 0, .int .i64 0, .slice none 0 0, .slice g1 liveB.length k1] 26))
  have HA := Aside0.mk (below_alloc (Below.refl W1.heap.size W1) (.cells #[.slice none 0 0, .int .i64 0, .slice none 0 0, .slice g1 liveB.length k1] 26))
  generalize W1.alloc (.cells #[.slice none 0 0, .int .i64 0, .slice none 0 0, .slice g1 liveB.length k1] 26) = W2 at BKg HA ⊢
  have HB2 := Aside0.mk (below_then HB1.out HB1.out.size HA.out)
  have CB2 := Aside0.mk (Kd.C_below HC1.out HA.out)
  have z0 : W2.cell? ⟨W1.heap.size, 0, none⟩ = some (.slice none 0 0) := (blk_cell BKg.out 0).trans rfl
  have z1 : W2.cell? ⟨W1.heap.size, 1, none⟩ = some (.int .i64 0) := (blk_cell BKg.out 1).trans rfl
  have z2 : W2.cell? ⟨W1.heap.size, 2, none⟩ = some (.slice none 0 0) := (blk_cell BKg.out 2).trans rfl
  have z3 : W2.cell? ⟨W1.heap.size, 3, none⟩ = some (.slice g1 liveB.length k1) := (blk_cell BKg.out 3).trans rfl
  clear hl3
  go_upto_region 3 with (first
    | ((go_at_call 10); refine (place_Place.calls none 0 [] 0 none 0 [] g1 k1 liveB [0, 2, 1] 0 _ (Kd.C_nil _ _) (Nat.le_refl _) (Kd.C_nil _ _) (Nat.le_refl _) CB2.out HK1.out live_place).mono ?_; rintro e W3 ⟨vp, rfl, hRp, hBp⟩; obtain ⟨Ap, cp, rfl, hcp, hCp⟩ := Kd.R_reads hRp; have HCp := Aside0.mk hcp; have Cp := Aside0.mk hCp; have BK3 := Aside0.mk (blk_below BKg.out hBp); have HB3 := Aside0.mk (below_then HB2.out HB2.out.size hBp); have CB3 := Aside0.mk (Kd.C_below CB2.out hBp); clear hRp hBp hcp hCp z0 z1 z2 z3)
    | fail)
  have z0 : W3.cell? ⟨W1.heap.size, 0, none⟩ = some (.slice none 0 0) := (blk_cell BK3.out 0).trans rfl
  have z1 : W3.cell? ⟨W1.heap.size, 1, none⟩ = some (.int .i64 0) := (blk_cell BK3.out 1).trans rfl
  have z2 : W3.cell? ⟨W1.heap.size, 2, none⟩ = some (.slice none 0 0) := (blk_cell BK3.out 2).trans rfl
  have z3 : W3.cell? ⟨W1.heap.size, 3, none⟩ = some (.slice g1 liveB.length k1) := (blk_cell BK3.out 3).trans rfl
  go_upto_region 4 with (first
    | ((with_reducible refine gate_dst (N := 21) rfl ?_); (try (refine gate_guard (by rfl) ?_; dsimp only)); refine Kd.R_lit (Kd.int .i64) (w0 := w) w.heap.size 3 ?hg (N := 21) ?hd (xs := ([0, 2, 1] : List Int)) (inner := [.int .i64 0, .int .i64 2, .int .i64 1]) (ok := fun _ => True) (okp := fun _ => True) ?hr ?hp (fun _ hk => hk) trivial HB3.out HB3.out.size (by decide) ?_; (case hd => rfl); (case hg => rfl); (case hr => first | (go_simp; done) | (go_simp; rfl)); (case hp => exact (Reps.one (show Kd.M (Kd.int .i64) _ _ _ 0 [.int .i64 0] from rfl) (Reps.one (show Kd.M (Kd.int .i64) _ _ _ 2 [.int .i64 2] from rfl) (Reps.one (show Kd.M (Kd.int .i64) _ _ _ 1 [.int .i64 1] from rfl) (Reps.none _ _))))); intro v W4 hR hB hG hO; have HGo := Aside0.mk (show Below W3.heap.size W3 W4 from ⟨hG.os, hG.tape, hG.output, hG.size, fun k hk => hG.block k hk (by simp)⟩); obtain ⟨oA, oc, rfl, hk, hC⟩ := Kd.R_reads hR; have HKo := Aside0.mk hk; have HCo := Aside0.mk hC; have HBo := Aside0.mk hB; clear hR hB hG hO hk hC)
    | ((go_at_call 18); refine (place_Reorder.calls none 0 [] 0 none 0 [] g1 k1 liveB _ _ [0, 2, 1] [] 0 [] liveX 0 _ (Kd.C_nil _ _) (Nat.le_refl _) (Kd.C_nil _ _) (Nat.le_refl _) (Kd.C_below CB3.out HGo.out) HK1.out HCo.out HKo.out live_reorder).mono ?_; rintro e W5 ⟨y0, y2, y3, rfl, hy0, hy2, hy3, hB5⟩; obtain ⟨B0, d0, rfl, hd0, hD0⟩ := Kd.R_reads hy0; obtain ⟨B2, d2, rfl, hd2, hD2⟩ := Kd.R_reads hy2; obtain ⟨G3, d3, hv3, -⟩ := Kd.R_form hy3 (by decide); subst hv3; have hD3 := (Kd.R_reads' hy3).2.2; have D3 := Aside0.mk hD3; have HB5 := Aside0.mk (below_then HBo.out HBo.out.size hB5); have Cp5 := Aside0.mk (Kd.C_below (Kd.C_below Cp.out HGo.out) hB5); clear hy0 hy2 hy3 hd0 hd2 hD0 hD2 hD3 hB5 z0 z1 z2 z3 HGo HKo HCo HBo)
    | fail)
  have hl3 : liveX.length = 3 := rfl
  have BKx := Aside0.mk (heap_alloc_new W5 (.cells #[.slice B0 0 d0, .int .i64 0, .slice B2 0 d2, .slice (some ⟨G3, 0, none⟩) liveX.length d3] 26))
  have HA5 := Aside0.mk (below_alloc (Below.refl W5.heap.size W5) (.cells #[.slice B0 0 d0, .int .i64 0, .slice B2 0 d2, .slice (some ⟨G3, 0, none⟩) liveX.length d3] 26))
  generalize W5.alloc (.cells #[.slice B0 0 d0, .int .i64 0, .slice B2 0 d2, .slice (some ⟨G3, 0, none⟩) liveX.length d3] 26) = W6 at BKx HA5 ⊢
  have HB6 := Aside0.mk (below_then HB5.out HB5.out.size HA5.out)
  have Cp6 := Aside0.mk (Kd.C_below Cp5.out HA5.out)
  have D6 := Aside0.mk (Kd.C_below D3.out HA5.out)
  have hsm : switchbacklaw15_same.f 10 [0, 2, 1] [0, 2, 1] = some true := by decide +kernel
  have HSM := Aside0.mk hsm
  clear hsm hl3
  go_wp2_with (first
    | ((with_reducible refine gate_dst (N := 26) rfl ?_); (try (refine gate_guard (by rfl) ?_; dsimp only)); refine Kd.R_lit (Kd.int .i64) (w0 := w) w.heap.size 3 ?hg (N := 26) ?hd (xs := ([0, 2, 1] : List Int)) (inner := [.int .i64 0, .int .i64 2, .int .i64 1]) (ok := fun _ => True) (okp := fun _ => True) ?hr ?hp (fun _ hk => hk) trivial HB6.out HB6.out.size (by decide) ?_; (case hd => rfl); (case hg => rfl); (case hr => first | (go_simp; done) | (go_simp; rfl)); (case hp => exact (Reps.one (show Kd.M (Kd.int .i64) _ _ _ 0 [.int .i64 0] from rfl) (Reps.one (show Kd.M (Kd.int .i64) _ _ _ 2 [.int .i64 2] from rfl) (Reps.one (show Kd.M (Kd.int .i64) _ _ _ 1 [.int .i64 1] from rfl) (Reps.none _ _))))); intro v W7 hR hB hG hO; have HGo := Aside0.mk (show Below W6.heap.size W6 W7 from ⟨hG.os, hG.tape, hG.output, hG.size, fun k hk => hG.block k hk (by simp)⟩); obtain ⟨oA, oc, rfl, hk, hC⟩ := Kd.R_reads hR; have HKo := Aside0.mk hk; have HCo := Aside0.mk hC; have HBo := Aside0.mk hB; clear hR hB hG hO hk hC)
    | ((go_at_call 20); refine (switchbacklaw15_same.calls 10 _ _ [0, 2, 1] _ _ [0, 2, 1] true _ (Kd.C_below Cp6.out HGo.out) HCp.out HCo.out HKo.out HSM.out).mono ?_; rintro e W8 ⟨rfl, hdr⟩; obtain ⟨nd, rfl⟩ := hdr; have D8 := Aside0.mk (Kd.C_drewN (Kd.C_below D6.out HGo.out) nd); have BK8 := Aside0.mk (blk_drewN (blk_below BKx.out HGo.out) nd); have HB8 := Aside0.mk (pw_below_drewN HBo.out nd); clear HGo HKo HCo HBo; generalize W7.drewN nd = W8 at D8 BK8 HB8 ⊢; have y3 : W8.cell? ⟨W5.heap.size, 3, none⟩ = some (.slice (some ⟨G3, 0, none⟩) liveX.length d3) := (blk_cell BK8.out 3).trans rfl; have hl3 : liveX.length = 3 := rfl; obtain ⟨ad, _, _, _, _, _, _, ha, _, _, _, _, _, _, q0, _⟩ := at_T77 D8.out 0 (by decide) (by decide); obtain ⟨ad1, _, _, _, _, _, _, ha1, _, _, _, _, _, _, q1, _⟩ := at_T77 D8.out 1 (by decide) (by decide); obtain ⟨ad2, _, _, _, _, _, _, ha2, _, q2, _⟩ := at_T77 D8.out 2 (by decide) (by decide); injection ha with ha; subst ha; injection ha1 with ha1; subst ha1; injection ha2 with ha2; subst ha2; have x0 : W8.cell? ⟨G3, 6, none⟩ = some (.int .i64 1) := q0; have x1 : W8.cell? ⟨G3, 16, none⟩ = some (.int .i64 2) := q1; have x2 : W8.cell? ⟨G3, 21, none⟩ = some (.int .i64 5) := q2; clear q0 q1 q2)
    | fail)
  go_ret
  exact ⟨rfl, HB8.out⟩
end Go.Proofs.Ytocdebfbpfmnnaa.Pr
