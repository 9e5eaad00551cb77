/- place.edges: the blocks to which each block leads, if the graph walks. -/
import Derived.Test.YtocdebfbpfmnnaaXNext
import Derived.Test.YtocdebfbpfmnnaaXFuncs
import Derived.Test.YtocdebfbpfmnnaaXCopyA
import Derived.Deep.RegionWith
namespace Go.Proofs.Ytocdebfbpfmnnaa.Pr
open Go.RowKit Go.Proofs.YtocdebfbpfmnnaaW.PrintWords Go.Proofs.YtocdebfbpfmnnaaW.PrintLast Go.Proofs.YtocdebfbpfmnnaaW.PrintMore
set_option linter.unusedVariables false
set_option linter.unusedSimpArgs false

def nextB (b : S77) : List Int := nextL (targetsOf b.f1)
def edgesL (l3 : List S77) : List (List Int) := l3.map nextB
def outB (n : Nat) (c : Int) : Bool := decide (c < 0) || decide (c ≥ (n : Int))
def walksL (n : Nat) (l3 : List S77) : Bool := l3.all fun b => !(nextB b).any (outB n)

theorem edges1.calls (B : Nat) (A : Option Addr) (n c : Nat) (x : Int) (W : World) (hc : W.cell? ⟨B, 0, none⟩ = some (.slice A n c)) :
    Calls Try.prog 61 #[.int .i64 x, .pointer (some ⟨B, 0, none⟩)] W fun e w' => e = .returned (.bool (outB n x)) ∧ W = w' := by
  by_cases h : x < 0
  · have hb : decide (x < 0) = true := decide_eq_true h
    have HX := Aside0.mk h
    clear h
    go_enter Try.func61, Try.ntmps61
    go_wp2
    go_ret
    exact ⟨by simp [outB, HX.out], rfl⟩
  · have hb : decide (x < 0) = false := decide_eq_false h
    have HX := Aside0.mk h
    clear h
    go_enter Try.func61, Try.ntmps61
    go_wp2
    go_ret
    have e : outB n x = decide (x ≥ (n : Int)) := by unfold outB; rw [decide_eq_false (Int.not_lt.mpr HX.out), Bool.false_or]
    exact ⟨by rw [e]; rfl, rfl⟩

def place_edges.f (_l0_0 : List Int) (_a0_1 : Int) (_l0_2 : List S79) (l0_3 : List S77) : Option (List (List Int)) :=
  if 1 ≤ l0_3.length ∧ l0_3.length ≤ 20000 then (if ∀ b ∈ l0_3, okTargets b.f1 then some (if walksL l0_3.length l0_3 then edgesL l0_3 else []) else none) else some []

set_option maxHeartbeats 1600000 in
set_option maxRecDepth 100000 in
theorem place_edges.calls (A0_0 : Option Addr) (c0_0 : Nat) (l0_0 : List Int) (a0_1 : Int) (A0_2 : Option Addr) (c0_2 : Nat) (l0_2 : List (S79)) (A0_3 : Option Addr) (c0_3 : Nat) (l0_3 : List (S77)) (r : List (List Int)) (w : World) (hr0_0 : Kd.C (Kd.int .i64) w A0_0 l0_0.length l0_0) (hc0_0 : l0_0.length ≤ c0_0) (hr0_2 : Kd.C k79 w A0_2 l0_2.length l0_2) (hc0_2 : l0_2.length ≤ c0_2) (hr0_3 : Kd.C k77 w A0_3 l0_3.length l0_3) (hc0_3 : l0_3.length ≤ c0_3) (h : place_edges.f l0_0 a0_1 l0_2 l0_3 = some r) :
    Calls Try.prog 32 #[.agg #[.slice A0_0 l0_0.length c0_0, .int .i64 a0_1, .slice A0_2 l0_2.length c0_2, .slice A0_3 l0_3.length c0_3]] w fun e w' => ∃ v0_ : Value, e = .returned (v0_) ∧ Kd.R (Kd.slice 3 (Kd.int .i64)) 22 w' w.heap.size (fun _ => True) v0_ r ∧ Below w.heap.size w w' ∧ (r = [] → v0_ = .slice none 0 0) := by
  have HR0_0 := Aside0.mk hr0_0
  have HC0_0 := Aside0.mk hc0_0
  have HR0_2 := Aside0.mk hr0_2
  have HC0_2 := Aside0.mk hc0_2
  have HR0_3 := Aside0.mk hr0_3
  have HC0_3 := Aside0.mk hc0_3
  clear hr0_0 hc0_0 hr0_2 hc0_2 hr0_3 hc0_3
  unfold place_edges.f at h
  by_cases hb : 1 ≤ l0_3.length ∧ l0_3.length ≤ 20000
  · rw [if_pos hb] at h
    by_cases hok : ∀ b ∈ l0_3, okTargets b.f1
    · rw [if_pos hok] at h
      have H := Aside0.mk (Option.some.inj h)
      have HOK := Aside0.mk hok
      clear h hok
      have HLB := Aside0.mk hb
      have c1b : decide ((l0_3.length : Int) < 1) = false := decide_eq_false (by omega)
      have c1n : decide (l0_3.length < 1) = false := decide_eq_false (by omega)
      have c2b : decide (20000 < (l0_3.length : Int)) = false := decide_eq_false (by omega)
      have c2n : decide (20000 < l0_3.length) = false := decide_eq_false (by omega)
      clear hb
      have hi22 : (Try.prog.info? 22).map (fun i => (i.zero, i.size, i.bytes)) = some (some (.slice none 0 0), 1, 24) := by kernel_rfl
      go_enter Try.func32, Try.ntmps32
      go_wp2_with (first
        | ((with_reducible refine gate_dst (N := 18) rfl ?_); refine Kd.R_make (Kd.slice 3 (Kd.int .i64)) (w0 := w) w.heap.size 22 rfl rfl 31 _ _ rfl (l0_3.length : Int) rfl rfl Try.underlying31 (.slice none 0 0) 24 hi22 rfl (by decide) (by decide) [] (okp := fun k => w.heap.size < k) ⟨_, rfl, Kd.R_nil _ _ _ _ _⟩ (fun _ _ => trivial) trivial (by omega) (by simp; have := HLB.out; omega) (below_alloc (Below.refl _ _) _) (below_alloc (Below.refl _ _) _).size ?_; intro v1 w1 hR1 hB1 hG1 hO1; rw [Int.toNat_natCast] at hR1; obtain ⟨gR, cap, hv, hgb, hgl, _⟩ := Kd.R_form hR1 (by rw [List.length_replicate]; have := HLB.out; omega); rw [List.length_replicate] at hv; subst hv; have HGE := Aside0.mk (show w.heap.size < gR by obtain ⟨b, hb1, hb2⟩ := hO1; have : gR = b := (by simpa [Value.ownBlock] using hb1); rw [World.size_alloc] at hb2; omega); have BKg := Aside0.mk (blk_grown (row := none) (o := .cells #[.slice A0_0 l0_0.length c0_0, .int .i64 a0_1, .slice A0_2 l0_2.length c0_2, .slice A0_3 l0_3.length c0_3] 26 (0, 0)) (g := w.heap.size) (heap_alloc_new w _) hG1 (by simp)); have HGL := Aside0.mk hgl; have HB := Aside0.mk hB1; have HRW := Aside0.mk hR1; clear hR1 hgb hgl hO1 hB1 hG1; have z0 := (blk_cell BKg.out 0).trans rfl; have z1 := (blk_cell BKg.out 1).trans rfl; have z2 := (blk_cell BKg.out 2).trans rfl; have z3 := (blk_cell BKg.out 3).trans rfl)
        | fail)
      go_loopw [21] (fun v21 wr => ∃ q : Nat, q ≤ l0_3.length ∧ v21 = .int .i64 (q : Int) ∧ Aside0 (Kd.R (Kd.slice 3 (Kd.int .i64)) 22 wr w.heap.size (fun _ => True) (.slice (some ⟨gR, 0, none⟩) l0_3.length cap) ((edgesL l0_3).take q ++ List.replicate (l0_3.length - q) [])) ∧ Aside0 (wr.heap[w.heap.size]? = some (.cells #[.slice A0_0 l0_0.length c0_0, .int .i64 a0_1, .slice A0_2 l0_2.length c0_2, .slice A0_3 l0_3.length c0_3] 26 (0, 0))) ∧ Aside0 (wr.heap[w1.heap.size]? = some (.cells #[.slice (some ⟨gR, 0, none⟩) l0_3.length cap] 31 (0, 0))) ∧ Aside0 (walksL l0_3.length (l0_3.take q) = true) ∧ Aside0 (Below w.heap.size w wr)) (fun v21 _ => l0_3.length - (intOf v21).toNat)
      case atStart => exact ⟨0, Nat.zero_le _, rfl, ⟨by simpa using Kd.R_alloc HRW.out _⟩, ⟨blk_alloc BKg.out _⟩, ⟨heap_alloc_new _ _⟩, ⟨rfl⟩, ⟨below_alloc HB.out _⟩⟩
      case round =>
        obtain ⟨q, hq, rfl, HRW, BKg, BKo, HWK, HB⟩ := hrel
        have z0 : wr.cell? ⟨w.heap.size, 0, none⟩ = some (.slice A0_0 l0_0.length c0_0) := (blk_cell BKg.out 0).trans rfl
        have z1 : wr.cell? ⟨w.heap.size, 1, none⟩ = some (.int .i64 a0_1) := (blk_cell BKg.out 1).trans rfl
        have z2 : wr.cell? ⟨w.heap.size, 2, none⟩ = some (.slice A0_2 l0_2.length c0_2) := (blk_cell BKg.out 2).trans rfl
        have z3 : wr.cell? ⟨w.heap.size, 3, none⟩ = some (.slice A0_3 l0_3.length c0_3) := (blk_cell BKg.out 3).trans rfl
        have y0 : wr.cell? ⟨w1.heap.size, 0, none⟩ = some (.slice (some ⟨gR, 0, none⟩) l0_3.length cap) := (blk_cell BKo.out 0).trans rfl
        have hq2 : (q : Int) + 1 ≤ 9223372036854775807 := by have := HLB.out; omega
        by_cases hlt : q < l0_3.length
        · have HLT := Aside0.mk hlt
          have hltb : decide ((q : Int) < (l0_3.length : Int)) = true := decide_eq_true (by omega)
          have hlti : (q : Int) < (l0_3.length : Int) := by omega
          have hN := Aside0.mk (show graph_Next.f l0_0 a0_1 l0_2 l0_3 (q : Int) = some (nextB (rd_T77 l0_3 (q : Int))) by
            unfold graph_Next.f nextB
            rw [if_pos ⟨by omega, hlti⟩, if_pos (HOK.out _ (by unfold rd_T77; rw [Int.toNat_natCast, List.getD_eq_getElem?_getD, List.getElem?_eq_getElem hlt]; exact List.getElem_mem hlt))])
          have E0 := Aside0.mk (Kd.C_drew (Kd.C_below HR0_0.out HB.out))
          have E2 := Aside0.mk (Kd.C_drew (Kd.C_below HR0_2.out HB.out))
          have E3 := Aside0.mk (Kd.C_drew (Kd.C_below HR0_3.out HB.out))
          clear hlt
          go_wp2_with fail
          refine start_ (n := 7) (S := fun w' => w'.cell? ⟨w1.heap.size, 0, none⟩ = some (.slice (some ⟨gR, 0, none⟩) l0_3.length cap) ∧ w'.cell? ⟨w.heap.size, 0, none⟩ = some (.slice A0_0 l0_0.length c0_0) ∧ w'.cell? ⟨w.heap.size, 1, none⟩ = some (.int .i64 a0_1) ∧ w'.cell? ⟨w.heap.size, 2, none⟩ = some (.slice A0_2 l0_2.length c0_2) ∧ w'.cell? ⟨w.heap.size, 3, none⟩ = some (.slice A0_3 l0_3.length c0_3)) (ds := [6]) #[false, false, false, false, false, false, false] (by kernel_rfl) rfl rfl ⟨y0, z0, z1, z2, z3⟩ (fun hHeld => ?_)
          refine pure_ (i := 1) (N := some 25) (v := ?_) (a' := ?_) #[false, true, false, false, false, false, false] rfl rfl (by kernel_rfl) (fun _ _ _ h => h) (Or.inl ⟨by rfl, ?_⟩) ?_ ?_
          rotate_left
          · intro w'
            go_simp
            with_reducible rfl
          rotate_left
          · simp only [Act.put, List.setIfInBounds_toArray, List.set_cons_zero, List.set_cons_succ, i64_w, i32_w]
            rfl
          refine pure_ (i := 3) (N := some 27) (v := ?_) (a' := ?_) #[false, true, false, true, false, false, false] rfl rfl (by kernel_rfl) (fun _ _ _ h => h) (Or.inl ⟨by rfl, ?_⟩) ?_ ?_
          rotate_left
          · intro w'
            go_simp
            with_reducible rfl
          rotate_left
          · simp only [Act.put, List.setIfInBounds_toArray, List.set_cons_zero, List.set_cons_succ, i64_w, i32_w]
            rfl
          refine take_ (i := 0) (N := some 24) (v := ?_) (a' := ?_) #[true, true, false, true, false, false, false] rfl rfl (by kernel_rfl) (fun _ _ _ h => h) (Or.inl ⟨by rfl, ?_⟩) hHeld ?_ ?_
          rotate_left
          · rintro w' ⟨s0, s1, s2, s3, s4⟩
            go_simp
            with_reducible rfl
          rotate_left
          · simp only [Act.put, List.setIfInBounds_toArray, List.set_cons_zero, List.set_cons_succ, i64_w, i32_w]
            rfl
          refine take_ (i := 2) (N := some 26) (v := ?_) (a' := ?_) #[true, true, true, true, false, false, false] rfl rfl (by kernel_rfl) (fun _ _ _ h => h) (Or.inl ⟨by rfl, ?_⟩) hHeld ?_ ?_
          rotate_left
          · rintro w' ⟨s0, s1, s2, s3, s4⟩
            go_simp
            with_reducible rfl
          rotate_left
          · simp only [Act.put, List.setIfInBounds_toArray, List.set_cons_zero, List.set_cons_succ, i64_w, i32_w]
            rfl
          refine one_ (i := 4) (N := some 28) #[true, true, true, true, true, false, false] rfl rfl (by kernel_rfl) (by decide) (fun K hK => ?_)
          refine goes_ Try.func54 (by kernel_rfl) rfl #[.agg #[.slice A0_0 l0_0.length c0_0, .int .i64 a0_1, .slice A0_2 l0_2.length c0_2, .slice A0_3 l0_3.length c0_3], .int .i64 (q : Int)] (by rfl) rfl rfl (by simp only [List.map_toArray, List.map_cons, List.map_nil]; rfl) ?_
          with_reducible refine (graph_Next.calls _ _ l0_0 a0_1 _ _ l0_2 _ _ l0_3 (q : Int) _ _ E0.out HC0_0.out E2.out HC0_2.out E3.out HC0_3.out hN.out).mono ?_
          rintro e w2 ⟨v, rfl, hRv, hBv⟩
          refine ⟨_, rfl, ?_⟩
          obtain ⟨Av, cv, rfl, hcv, hCv⟩ := Kd.R_reads hRv
          have HRV := Aside0.mk hRv
          have HCV := Aside0.mk hcv
          have HBV := Aside0.mk hBv
          clear hRv hcv hCv hBv
          obtain ⟨u0, hu0, hf0, hM0⟩ := row_one (q := q) rfl (Kd.R_below (Kd.R_drew HRW.out) HBV.out) HLT.out []
          clear hM0
          refine hK.out _ _ ⟨(HBV.out.cell (World.block_lt_of_cell? _ _ y0)).trans y0, (HBV.out.cell (World.block_lt_of_cell? _ _ z0)).trans z0, (HBV.out.cell (World.block_lt_of_cell? _ _ z1)).trans z1, (HBV.out.cell (World.block_lt_of_cell? _ _ z2)).trans z2, (HBV.out.cell (World.block_lt_of_cell? _ _ z3)).trans z3⟩ (fun hHeld => ?_)
          clear hK K
          refine norm_ (a' := ?_) ?_ ?_
          rotate_left
          · show Act.put _ (some 28) _ = _
            simp only [Act.put, List.setIfInBounds_toArray, List.set_cons_zero, List.set_cons_succ, i64_w, i32_w]
            rfl
          refine pure_ (i := 5) (N := some 29) (v := ?_) (a' := ?_) #[true, true, true, true, true, true, false] rfl rfl (by kernel_rfl) (fun _ _ _ h => h) (Or.inl ⟨by rfl, ?_⟩) ?_ ?_
          rotate_left
          · intro w'
            go_simp
            with_reducible rfl
          rotate_left
          · simp only [Act.put, List.setIfInBounds_toArray, List.set_cons_zero, List.set_cons_succ, i64_w, i32_w]
            rfl
          refine last_ (i := 6) (N := none) #[true, true, true, true, true, true, true] rfl rfl (by kernel_rfl) (by decide) (fun K hK => ?_)
          refine skip_ (w1 := ?_) (by rfl) rfl ?_ ?_
          rotate_left
          · go_simp
            rfl
          refine hK.out _ _ ?_
          clear hK K
          refine done_ (by kernel_rfl) ?_
          have HGR := Aside0.mk (show gR < wr.heap.size from Kd.R_lt HRW.out gR rfl)
          have HRS := row_set (q := q) rfl (Kd.R_below (Kd.R_drew HRW.out) HBV.out) HLT.out (x' := nextB (rd_T77 l0_3 (q : Int))) (u := .slice Av (nextB (rd_T77 l0_3 (q : Int))).length cv) (okp := fun k => wr.drew.heap.size ≤ k) ⟨_, rfl, Kd.R_lower (Kd.R_mono (Kd.R_bound HRV.out) (fun k hk => hk.2.1)) HB.out.size⟩ (fun k hk => ⟨trivial, fun e => by subst e; exact absurd HGR.out (Nat.not_lt.mpr hk)⟩)
          have HR3 := Aside0.mk HRS.1
          have HG3 := Aside0.mk HRS.2
          clear HRS
          have HRV3 := Aside0.mk (Kd.R_far (p := ⟨gR, q, none⟩) (Kd.R_mono (Kd.R_bound HRV.out) (ok' := fun k => wr.drew.heap.size ≤ k) (fun k hk => hk.2.1)) (fun k hk e => by subst e; exact absurd HGR.out (Nat.not_lt.mpr hk)) (.slice Av (nextB (rd_T77 l0_3 (q : Int))).length cv))
          have BKg3 := Aside0.mk (blk_grown (blk_below (blk_drew BKg.out) HBV.out) HG3.out (by have := HGE.out; intro e; injection e; omega))
          have BKo3 := Aside0.mk (blk_grown (blk_below (blk_drew BKo.out) HBV.out) HG3.out (by have := HGL.out; intro e; injection e; omega))
          have HB3 := Aside0.mk (below_set (g := gR) (j := q) (v := .slice Av (nextB (rd_T77 l0_3 (q : Int))).length cv) (below_then (below_drew HB.out) (by exact HB.out.size) HBV.out) (by have := HGE.out; omega))
          have x3 : (w2.setCell ⟨gR, q, none⟩ (.slice Av (nextB (rd_T77 l0_3 (q : Int))).length cv)).cell? ⟨gR, q, none⟩ = some (.slice Av (nextB (rd_T77 l0_3 (q : Int))).length cv) := World.cell?_setCell_same' _ _ _ (by rw [hu0]; rfl)
          clear BKg BKo HB HRW HBV HG3 HRV z0 z1 z2 z3 y0 hu0 hf0 hHeld
          generalize w2.setCell ⟨gR, q, none⟩ (.slice Av (nextB (rd_T77 l0_3 (q : Int))).length cv) = w3 at HR3 HRV3 BKg3 BKo3 HB3 x3 ⊢
          have y0 : w3.cell? ⟨w1.heap.size, 0, none⟩ = some (.slice (some ⟨gR, 0, none⟩) l0_3.length cap) := (blk_cell BKo3.out 0).trans rfl
          have hmf : ∀ (fn : Fn) (first cap : Array Value) (w : World), (Instr.makeFunc fn first cap).run Try.prog w = .ok (.func fn first cap) w := fun _ _ _ _ => rfl
          have HCF := Aside0.mk (ContainsFunc.calls 61 #[.pointer (some ⟨w1.heap.size, 0, none⟩)] (enters_of Try.func61 (by kernel_rfl) rfl) (outB l0_3.length) Av cv (nextB (rd_T77 l0_3 (q : Int))) w3 (Kd.R_reads' HRV3.out).2.2 HCV.out (fun x _ => edges1.calls w1.heap.size (some ⟨gR, 0, none⟩) l0_3.length cap x w3 y0))
          have HQB := Aside0.mk (show nextB (rd_T77 l0_3 (q : Int)) = nextB l0_3[q] by unfold rd_T77; rw [Int.toNat_natCast, List.getD_eq_getElem?_getD, List.getElem?_eq_getElem HLT.out]; rfl)
          by_cases hany : (nextB (rd_T77 l0_3 (q : Int))).any (outB l0_3.length) = true
          · rw [hany] at HCF
            have HANY := Aside0.mk hany
            clear hany
            go_wp2_with (go_at_call 60; refine HCF.out.mono ?_; rintro e w4 ⟨rfl, rfl⟩)
            go_ret
            have hr : r = [] := by
              rw [← H.out, if_neg]
              intro hw
              have := List.all_eq_true.1 hw l0_3[q] (List.getElem_mem HLT.out)
              rw [← HQB.out, HANY.out] at this
              cases this
            exact ⟨_, rfl, by rw [hr]; exact Kd.R_nil _ _ _ _ _, HB3.out, fun _ => rfl⟩
          · have hanyf : (nextB (rd_T77 l0_3 (q : Int))).any (outB l0_3.length) = false := by simpa using hany
            rw [hanyf] at HCF
            have HANY := Aside0.mk hanyf
            clear hany hanyf
            go_wp2_with (go_at_call 60; refine HCF.out.mono ?_; rintro e w4 ⟨rfl, rfl⟩)
            go_roundw
            case measure => have := HLT.out; simp [intOf]; omega
            case rel => exact ⟨q + 1, HLT.out, by go_num, ⟨by
              have h3 := HR3.out
              have hlt := HLT.out
              rw [HQB.out] at h3
              have e1 : ((edgesL l0_3).take q ++ List.replicate (l0_3.length - q) ([] : List Int)).set q (nextB l0_3[q]) = (edgesL l0_3).take (q + 1) ++ List.replicate (l0_3.length - (q + 1)) [] := by
                have hl : (edgesL l0_3).length = l0_3.length := by simp [edgesL]
                rw [List.set_append_right _ _ (by rw [List.length_take]; omega), List.take_succ_eq_append_getElem (by omega), List.append_assoc, List.length_take, show q - min q (edgesL l0_3).length = 0 by omega,
                  show l0_3.length - q = (l0_3.length - (q + 1)) + 1 by omega, List.replicate_succ]
                simp [edgesL]
              rwa [e1] at h3⟩, BKg3, BKo3, ⟨by
              have hlt := HLT.out
              unfold walksL at HWK ⊢
              rw [List.take_succ_eq_append_getElem hlt, List.all_append, HWK.out]
              simp only [List.all_cons, List.all_nil, Bool.true_and, Bool.and_true]
              rw [← HQB.out, HANY.out]; rfl⟩, HB3⟩
        · obtain rfl : q = l0_3.length := by omega
          have hltb : decide ((l0_3.length : Int) < (l0_3.length : Int)) = false := decide_eq_false (by omega)
          go_wp2
          go_ret
          have hw : walksL l0_3.length l0_3 = true := by have := HWK.out; rwa [List.take_of_length_le (Nat.le_refl _)] at this
          have hr : r = edgesL l0_3 := by rw [← H.out, if_pos hw]
          refine ⟨_, rfl, ?_, HB.out, ?_⟩
          · have h3 := HRW.out
            rw [Nat.sub_self, List.replicate_zero, List.append_nil, List.take_of_length_le (by simp [edgesL])] at h3
            rw [hr]; exact h3
          · intro he
            rw [hr] at he
            have := congrArg List.length he
            have h1 := HLB.out.1
            rw [edgesL, List.length_map, List.length_nil] at this
            omega
    · rw [if_neg hok] at h
      cases h
  · rw [if_neg hb] at h
    obtain rfl := Option.some.inj h
    clear h
    by_cases h1 : l0_3.length < 1
    · have c1b : decide ((l0_3.length : Int) < 1) = true := decide_eq_true (by omega)
      have c1n : decide (l0_3.length < 1) = true := decide_eq_true (by omega)
      clear h1 hb
      go_enter Try.func32, Try.ntmps32
      go_wp2
      go_ret
      exact ⟨_, rfl, Kd.R_nil _ _ _ _ _, below_alloc (Below.refl _ _) _, fun _ => rfl⟩
    · have c1b : decide ((l0_3.length : Int) < 1) = false := decide_eq_false (by omega)
      have c1n : decide (l0_3.length < 1) = false := decide_eq_false (by omega)
      have c2b : decide (20000 < (l0_3.length : Int)) = true := decide_eq_true (by omega)
      have c2n : decide (20000 < l0_3.length) = true := decide_eq_true (by omega)
      clear h1 hb
      go_enter Try.func32, Try.ntmps32
      go_wp2
      go_ret
      exact ⟨_, rfl, Kd.R_nil _ _ _ _ _, below_alloc (Below.refl _ _) _, fun _ => rfl⟩
end Go.Proofs.Ytocdebfbpfmnnaa.Pr
