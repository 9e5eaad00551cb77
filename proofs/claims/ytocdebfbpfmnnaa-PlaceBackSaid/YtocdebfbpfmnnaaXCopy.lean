/- graph.Copy: a module of its own, no two rows of which share a block. -/
import Derived.Test.YtocdebfbpfmnnaaXCopyA
namespace Go.Proofs.Ytocdebfbpfmnnaa.Pr
open Go.RowKit Go.Proofs.YtocdebfbpfmnnaaW.PrintWords Go.Proofs.YtocdebfbpfmnnaaW.PrintLast Go.Proofs.YtocdebfbpfmnnaaW.PrintMore
set_option linter.unusedVariables false
set_option linter.unusedSimpArgs false

def s26 : Kd S26 := Kd.iso (spair (Kd.slice 3 (Kd.int .i64)) (Kd.pair (Kd.int .i64) (spair (Kd.slice 79 k79) (sslice 77 s77)))) (fun x : S26 => (x.f0, x.f1, x.f2, x.f3))
theorem s26_open {w : World} {base : Nat} {ok : Nat → Prop} {x : S26} {cs : List Value} (h : s26.M w base ok x cs) :
    ∃ (v0 v2 v3 : Value) (g g2 : Nat → Bool), cs = [v0, .int .i64 x.f1, v2, v3] ∧ (Kd.int .i64).R 3 w base (fun k => ok k ∧ g k = true) v0 x.f0 ∧ k79.R 79 w base (fun k => (ok k ∧ g k = false) ∧ g2 k = true) v2 x.f2 ∧ Kd.S s77 77 w base (fun k => (ok k ∧ g k = false) ∧ g2 k = false) v3 x.f3 := by
  obtain ⟨_, _, rfl, g, ⟨v0, rfl, h0⟩, ⟨_, _, rfl, rfl, ⟨_, _, rfl, g2, ⟨v2, rfl, g8⟩, ⟨v3, rfl, g9⟩⟩⟩⟩ := h
  exact ⟨v0, v2, v3, g, g2, rfl, h0, g8, g9⟩
theorem s26_mk {w : World} {base : Nat} {ok ok0 ok2 ok3 : Nat → Prop} {x : S26} {v0 v2 v3 : Value} (h0 : (Kd.int .i64).R 3 w base ok0 v0 x.f0) (h2 : k79.R 79 w base ok2 v2 x.f2) (h3 : Kd.S s77 77 w base ok3 v3 x.f3)
    (k0 : ∀ k, ok0 k → ok k) (k2 : ∀ k, ok2 k → ok k) (k3 : ∀ k, ok3 k → ok k) (d02 : ∀ k, ok0 k → ¬ ok2 k) (d03 : ∀ k, ok0 k → ¬ ok3 k) (d23 : ∀ k, ok2 k → ¬ ok3 k) : s26.M w base ok x [v0, .int .i64 x.f1, v2, v3] :=
  spair_mk (a := Kd.slice 3 (Kd.int .i64)) (b := Kd.pair (Kd.int .i64) (spair (Kd.slice 79 k79) (sslice 77 s77))) (x := (x.f0, x.f1, x.f2, x.f3)) (ok1 := ok0) (ok2 := fun k => ok2 k ∨ ok3 k) (c0 := [v0]) (c1 := [.int .i64 x.f1, v2, v3]) ⟨v0, rfl, h0⟩
    ⟨_, _, rfl, rfl, spair_mk (c0 := [v2]) (c1 := [v3]) ⟨v2, rfl, h2⟩ ⟨v3, rfl, h3⟩ (fun k hk => .inl hk) (fun k hk => .inr hk) d23⟩ k0 (fun k hk => hk.elim (k2 k) (k3 k)) (fun k h1 h2 => h2.elim (d02 k h1) (d03 k h1))
theorem s26_k26 : ∀ w base ok x cs, s26.M w base ok x cs → k26.M w base ok x cs :=
  fun w base ok x cs h => spair_pair (a := Kd.slice 3 (Kd.int .i64)) (a' := Kd.slice 3 (Kd.int .i64)) M_id (pair_pair M_id (spair_pair (a := Kd.slice 79 k79) (a' := Kd.slice 79 k79) M_id (sslice_slice (d := s77) (d' := k77) rfl s77_k77))) w base ok _ cs h

def okBlk (b : S77) : Prop := b.f0.length * 96 ≤ 140737488355328 ∧ (∀ x ∈ b.f0, x.f6.length * 8 ≤ 140737488355328 ∧ x.f7.length * 8 ≤ 140737488355328) ∧ b.f1.f7.length * 16 ≤ 140737488355328 ∧ b.f1.f8.length * 8 ≤ 140737488355328
def okGr (g : S26) : Prop := g.f0.length * 8 ≤ 140737488355328 ∧ g.f2.length * 16 ≤ 140737488355328 ∧ g.f3.length * 128 ≤ 140737488355328 ∧ ∀ b ∈ g.f3, okBlk b
def okMod (l0 l1 : List Int) (l2 : List S26) : Prop := l0.length * 4 ≤ 140737488355328 ∧ l1.length * 8 ≤ 140737488355328 ∧ l2.length * 80 ≤ 140737488355328 ∧ ∀ g ∈ l2, okGr g
theorem infoS77 : (Try.prog.info? 77).map (fun i => (i.zero, i.size, i.bytes)) = some (some (.agg #[(.slice none 0 0), (.int .i64 0), (.int .i64 0), (.int .i64 0), (.int .i64 0), (.int .u32 0), (.int .i64 0), (.int .i64 0), (.slice none 0 0), (.slice none 0 0)]), 10, 128) := by kernel_rfl
theorem infoS26 : (Try.prog.info? 26).map (fun i => (i.zero, i.size, i.bytes)) = some (some (.agg #[(.slice none 0 0), (.int .i64 0), (.slice none 0 0), (.slice none 0 0)]), 4, 80) := by kernel_rfl


set_option maxHeartbeats 4000000 in
set_option maxRecDepth 100000 in
theorem graph_Copy.calls (A0_0 : Option Addr) (c0_0 : Nat) (l0_0 : List Int) (A0_1 : Option Addr) (c0_1 : Nat) (l0_1 : List Int) (A0_2 : Option Addr) (c0_2 : Nat) (l0_2 : List S26) (a0_3 : Int) (w : World)
    (hr0_0 : Kd.C (Kd.int .u32) w A0_0 l0_0.length l0_0) (hc0_0 : l0_0.length ≤ c0_0) (hr0_1 : Kd.C (Kd.int .i64) w A0_1 l0_1.length l0_1) (hc0_1 : l0_1.length ≤ c0_1) (hr0_2 : Kd.C k26 w A0_2 l0_2.length l0_2) (hc0_2 : l0_2.length ≤ c0_2) (hok : okMod l0_0 l0_1 l0_2) :
    Calls Try.prog 42 #[.agg #[.slice A0_0 l0_0.length c0_0, .slice A0_1 l0_1.length c0_1, .slice A0_2 l0_2.length c0_2, .int .i64 a0_3]] w fun e w' => ∃ (vG vA vF : Value) (N : Nat), e = .returned (.agg #[vG, vA, vF, .int .i64 a0_3]) ∧
      Kd.R (Kd.int .u32) 55 w' w.heap.size (fun k => k < N) vG l0_0 ∧ Kd.R (Kd.int .i64) 3 w' w.heap.size (fun k => k < N) vA l0_1 ∧ Kd.S s26 26 w' w.heap.size (fun k => N ≤ k) vF l0_2 ∧ Below w.heap.size w w' := by
  have HR0 := Aside0.mk hr0_0
  have HC0 := Aside0.mk hc0_0
  have HR1 := Aside0.mk hr0_1
  have HC1 := Aside0.mk hc0_1
  have HR2 := Aside0.mk hr0_2
  have HC2 := Aside0.mk hc0_2
  have HOK := Aside0.mk (show _ ∧ _ ∧ _ ∧ _ from hok)
  clear hr0_0 hc0_0 hr0_1 hc0_1 hr0_2 hc0_2 hok
  go_enter Try.func42, Try.ntmps42
  go_wp2_with fail
  have BKb := Aside0.mk (blk_alloc (heap_alloc_new w (.cells #[.slice A0_0 l0_0.length c0_0, .slice A0_1 l0_1.length c0_1, .slice A0_2 l0_2.length c0_2, .int .i64 a0_3] 50)) (.cells #[.slice none 0 0, .slice none 0 0, .slice none 0 0, .int .i64 0] 50))
  have BKr := Aside0.mk (heap_alloc_new (w.alloc (.cells #[.slice A0_0 l0_0.length c0_0, .slice A0_1 l0_1.length c0_1, .slice A0_2 l0_2.length c0_2, .int .i64 a0_3] 50)) (.cells #[.slice none 0 0, .slice none 0 0, .slice none 0 0, .int .i64 0] 50))
  rw [World.size_alloc] at BKr
  have HB0 := Aside0.mk (below_alloc (below_alloc (Below.refl w.heap.size w) (.cells #[.slice A0_0 l0_0.length c0_0, .slice A0_1 l0_1.length c0_1, .slice A0_2 l0_2.length c0_2, .int .i64 a0_3] 50)) (.cells #[.slice none 0 0, .slice none 0 0, .slice none 0 0, .int .i64 0] 50))
  generalize (w.alloc (.cells #[.slice A0_0 l0_0.length c0_0, .slice A0_1 l0_1.length c0_1, .slice A0_2 l0_2.length c0_2, .int .i64 a0_3] 50)).alloc (.cells #[.slice none 0 0, .slice none 0 0, .slice none 0 0, .int .i64 0] 50) = W0 at BKb BKr HB0 ⊢
  have z0 : W0.cell? ⟨w.heap.size, 0, none⟩ = some (.slice A0_0 l0_0.length c0_0) := (blk_cell BKb.out 0).trans rfl
  have z1 : W0.cell? ⟨w.heap.size, 1, none⟩ = some (.slice A0_1 l0_1.length c0_1) := (blk_cell BKb.out 1).trans rfl
  have z3 : W0.cell? ⟨w.heap.size, 3, none⟩ = some (.int .i64 a0_3) := (blk_cell BKb.out 3).trans rfl
  have E0 := Aside0.mk (Kd.C_below HR0.out HB0.out)
  have E1 := Aside0.mk (Kd.C_below HR1.out HB0.out)
  refine start_ (n := 11) (S := fun w' => w'.cell? ⟨w.heap.size, 0, none⟩ = some (.slice A0_0 l0_0.length c0_0) ∧ w'.cell? ⟨w.heap.size, 1, none⟩ = some (.slice A0_1 l0_1.length c0_1) ∧ w'.cell? ⟨w.heap.size, 3, none⟩ = some (.int .i64 a0_3) ∧ Below W0.heap.size W0 w') (ds := [10]) #[false, false, false, false, false, false, false, false, false, false, false] (by kernel_rfl) rfl rfl ⟨z0, z1, z3, (below_drew (Below.refl W0.heap.size W0))⟩ (fun hHeld => ?_)
  generalize W0.drew = wd at  hHeld ⊢
  refine pure_ (i := 0) (N := some 10) (v := ?_) (a' := ?_) #[true, false, false, false, false, false, false, false, false, false, false] rfl rfl (by kernel_rfl) (fun _ _ _ h => h) (Or.inl ⟨by rfl, ?_⟩) ?_ ?_
  rotate_left
  · intro w'
    go_simp
    with_reducible rfl
  rotate_left
  · simp only [Act.put, List.setIfInBounds_toArray, List.set_cons_zero, List.set_cons_succ, i64_w, i32_w]
    rfl
  refine pure_ (i := 3) (N := some 13) (v := ?_) (a' := ?_) #[true, false, false, true, false, false, false, false, false, false, false] rfl rfl (by kernel_rfl) (fun _ _ _ h => h) (Or.inl ⟨by rfl, ?_⟩) ?_ ?_
  rotate_left
  · intro w'
    go_simp
    with_reducible rfl
  rotate_left
  · simp only [Act.put, List.setIfInBounds_toArray, List.set_cons_zero, List.set_cons_succ, i64_w, i32_w]
    rfl
  refine pure_ (i := 6) (N := some 16) (v := ?_) (a' := ?_) #[true, false, false, true, false, false, true, false, false, false, false] rfl rfl (by kernel_rfl) (fun _ _ _ h => h) (Or.inl ⟨by rfl, ?_⟩) ?_ ?_
  rotate_left
  · intro w'
    go_simp
    with_reducible rfl
  rotate_left
  · simp only [Act.put, List.setIfInBounds_toArray, List.set_cons_zero, List.set_cons_succ, i64_w, i32_w]
    rfl
  refine take_ (i := 1) (N := some 11) (v := ?_) (a' := ?_) #[true, true, false, true, false, false, true, false, false, false, false] rfl rfl (by kernel_rfl) (fun _ _ _ h => h) (Or.inl ⟨by rfl, ?_⟩) hHeld ?_ ?_
  rotate_left
  · rintro w' ⟨s0, s1, s2, s3⟩
    go_simp
    with_reducible rfl
  rotate_left
  · simp only [Act.put, List.setIfInBounds_toArray, List.set_cons_zero, List.set_cons_succ, i64_w, i32_w]
    rfl
  refine take_ (i := 4) (N := some 14) (v := ?_) (a' := ?_) #[true, true, false, true, true, false, true, false, false, false, false] rfl rfl (by kernel_rfl) (fun _ _ _ h => h) (Or.inl ⟨by rfl, ?_⟩) hHeld ?_ ?_
  rotate_left
  · rintro w' ⟨s0, s1, s2, s3⟩
    go_simp
    with_reducible rfl
  rotate_left
  · simp only [Act.put, List.setIfInBounds_toArray, List.set_cons_zero, List.set_cons_succ, i64_w, i32_w]
    rfl
  refine take_ (i := 7) (N := some 17) (v := ?_) (a' := ?_) #[true, true, false, true, true, false, true, true, false, false, false] rfl rfl (by kernel_rfl) (fun _ _ _ h => h) (Or.inl ⟨by rfl, ?_⟩) hHeld ?_ ?_
  rotate_left
  · rintro w' ⟨s0, s1, s2, s3⟩
    go_simp
    with_reducible rfl
  rotate_left
  · simp only [Act.put, List.setIfInBounds_toArray, List.set_cons_zero, List.set_cons_succ, i64_w, i32_w]
    rfl
  refine join_ (σ := Value × Value × Nat) 1 #[true, true, true, true, true, true, true, true, true, true, false] (fun s_ => [(12, s_.1), (3, .pointer (some ⟨s_.2.2, 0, none⟩)), (15, s_.2.1), (18, .agg #[s_.1, s_.2.1, .slice none 0 0, .int .i64 a0_3])]) (fun s_ w' => Below W0.heap.size W0 w' ∧ w'.heap[s_.2.2]? = some (.cells #[.slice none 0 0, .slice none 0 0, .slice none 0 0, .int .i64 0] 50 (0, 0)) ∧ W0.heap.size ≤ s_.2.2 ∧ Kd.R (Kd.int .u32) 55 w' W0.heap.size (fun k => True ∧ k ≠ s_.2.2) s_.1 l0_0 ∧ Kd.R (Kd.int .i64) 3 w' W0.heap.size (fun k => True ∧ k ≠ s_.2.2) s_.2.1 l0_1) ?_ ?_
  rotate_left
  · intro hCont
    refine two_ (i := 2) (j := 9) (Ni := some 12) (Nj := some 3) #[true, true, true, true, true, false, true, true, false, false, false] #[true, true, false, true, true, false, true, true, false, true, false] rfl rfl rfl rfl (by kernel_rfl) (by decide) (by decide) (fun K hK => ?_) (fun K hK => ?_)
    · skip
      refine goes_ Try.func69 (by kernel_rfl) rfl #[.slice A0_0 l0_0.length c0_0] (by rfl) rfl rfl (by simp only [List.map_toArray, List.map_cons, List.map_nil]; rfl) ?_
      with_reducible refine (Clone69.calls _ _ l0_0 _ (Kd.C_below E0.out hHeld.2.2.2) HC0.out HOK.out.1).mono ?_
      rintro e w5 ⟨vP, rfl, hR, hb⟩
      refine ⟨_, rfl, ?_⟩
      obtain ⟨AP, cP, rfl, _, _⟩ := Kd.R_reads hR
      have HP := Aside0.mk (Kd.R_lower hR hHeld.2.2.2.size)
      clear hR
      (try (have n_ := Aside0.mk (blk_below HK.out hb); clear HK; have HK := n_; clear n_))
      (try (have n_ := Aside0.mk (Kd.R_below HA.out hb); clear HA; have HA := n_; clear n_))
      refine hK.out _ _ ⟨((hb.cell (World.block_lt_of_cell? _ _ hHeld.1)).trans hHeld.1), ((hb.cell (World.block_lt_of_cell? _ _ hHeld.2.1)).trans hHeld.2.1), ((hb.cell (World.block_lt_of_cell? _ _ hHeld.2.2.1)).trans hHeld.2.2.1), (below_then hHeld.2.2.2 hHeld.2.2.2.size hb)⟩ (fun hHeld => ?_)
      clear hK K
      refine norm_ (a' := ?_) ?_ ?_
      rotate_left
      · show Act.put _ (some 12) _ = _
        simp only [Act.put, List.setIfInBounds_toArray, List.set_cons_zero, List.set_cons_succ, i64_w, i32_w]
        rfl
      refine two_ (i := 5) (j := 9) (Ni := some 15) (Nj := some 3) #[true, true, true, true, true, true, true, true, false, false, false] #[true, true, true, true, true, false, true, true, false, true, false] rfl rfl rfl rfl (by kernel_rfl) (by decide) (by decide) (fun K hK => ?_) (fun K hK => ?_)
      · skip
        refine goes_ Try.func70 (by kernel_rfl) rfl #[.slice A0_1 l0_1.length c0_1] (by rfl) rfl rfl (by simp only [List.map_toArray, List.map_cons, List.map_nil]; rfl) ?_
        with_reducible refine (Clone70.calls _ _ l0_1 _ (Kd.C_below E1.out hHeld.2.2.2) HC1.out HOK.out.2.1).mono ?_
        rintro e w7 ⟨vA, rfl, hR, hb⟩
        refine ⟨_, rfl, ?_⟩
        obtain ⟨AA, cA, rfl, _, _⟩ := Kd.R_reads hR
        have HA := Aside0.mk (Kd.R_lower hR hHeld.2.2.2.size)
        clear hR
        (try (have n_ := Aside0.mk (blk_below HK.out hb); clear HK; have HK := n_; clear n_))
        (try (have n_ := Aside0.mk (Kd.R_below HP.out hb); clear HP; have HP := n_; clear n_))
        refine hK.out _ _ ⟨((hb.cell (World.block_lt_of_cell? _ _ hHeld.1)).trans hHeld.1), ((hb.cell (World.block_lt_of_cell? _ _ hHeld.2.1)).trans hHeld.2.1), ((hb.cell (World.block_lt_of_cell? _ _ hHeld.2.2.1)).trans hHeld.2.2.1), (below_then hHeld.2.2.2 hHeld.2.2.2.size hb)⟩ (fun hHeld => ?_)
        clear hK K
        refine norm_ (a' := ?_) ?_ ?_
        rotate_left
        · show Act.put _ (some 15) _ = _
          simp only [Act.put, List.setIfInBounds_toArray, List.set_cons_zero, List.set_cons_succ, i64_w, i32_w]
          rfl
        refine pure_ (i := 8) (N := some 18) (v := ?_) (a' := ?_) #[true, true, true, true, true, true, true, true, true, false, false] rfl rfl (by kernel_rfl) (fun _ _ _ h => h) (Or.inl ⟨by rfl, ?_⟩) ?_ ?_
        rotate_left
        · intro w'
          go_simp
          with_reducible rfl
        rotate_left
        · simp only [Act.put, List.setIfInBounds_toArray, List.set_cons_zero, List.set_cons_succ, i64_w, i32_w]
          rfl
        refine one_ (i := 9) (N := some 3) #[true, true, true, true, true, true, true, true, true, true, false] rfl rfl (by kernel_rfl) (by decide) (fun K hK => ?_)
        refine value_ (w1 := ?_) (v := ?_) (by rfl) rfl ?_ ?_
        rotate_left 2
        · go_simp
          constructor
          · rfl
          · rfl
        have HN := Aside0.mk hHeld.2.2.2.size
        have HK := Aside0.mk (heap_alloc_new w7 (.cells #[.slice none 0 0, .slice none 0 0, .slice none 0 0, .int .i64 0] 50))
        (try (have n_ := Aside0.mk (Kd.R_below HP.out (below_alloc (Below.refl _ _) (.cells #[.slice none 0 0, .slice none 0 0, .slice none 0 0, .int .i64 0] 50))); clear HP; have HP := n_; clear n_))
        (try (have n_ := Aside0.mk (Kd.R_below HA.out (below_alloc (Below.refl _ _) (.cells #[.slice none 0 0, .slice none 0 0, .slice none 0 0, .int .i64 0] 50))); clear HA; have HA := n_; clear n_))
        refine hK.out _ _ ⟨(((below_alloc (Below.refl _ _) _).cell (World.block_lt_of_cell? _ _ hHeld.1)).trans hHeld.1), (((below_alloc (Below.refl _ _) _).cell (World.block_lt_of_cell? _ _ hHeld.2.1)).trans hHeld.2.1), (((below_alloc (Below.refl _ _) _).cell (World.block_lt_of_cell? _ _ hHeld.2.2.1)).trans hHeld.2.2.1), (below_alloc hHeld.2.2.2 _)⟩ (fun hHeld => ?_)
        clear hK K
        refine norm_ (a' := ?_) ?_ ?_
        rotate_left
        · show Act.put _ (some 3) _ = _
          simp only [Act.put, List.setIfInBounds_toArray, List.set_cons_zero, List.set_cons_succ, i64_w, i32_w]
          rfl
        exact norm_ (by simp only [putAll, Act.put, List.setIfInBounds_toArray, List.set_cons_zero, List.set_cons_succ]) (hCont (.slice AP _ cP, .slice AA _ cA, w7.heap.size) _ ⟨hHeld.2.2.2, HK.out, HN.out, Kd.R_types HP.out HK.out (by decide), Kd.R_types HA.out HK.out (by decide)⟩)
      · skip
        refine value_ (w1 := ?_) (v := ?_) (by rfl) rfl ?_ ?_
        rotate_left 2
        · go_simp
          constructor
          · rfl
          · rfl
        have HN := Aside0.mk hHeld.2.2.2.size
        have HK := Aside0.mk (heap_alloc_new w5 (.cells #[.slice none 0 0, .slice none 0 0, .slice none 0 0, .int .i64 0] 50))
        (try (have n_ := Aside0.mk (Kd.R_below HP.out (below_alloc (Below.refl _ _) (.cells #[.slice none 0 0, .slice none 0 0, .slice none 0 0, .int .i64 0] 50))); clear HP; have HP := n_; clear n_))
        (try (have n_ := Aside0.mk (Kd.R_below HA.out (below_alloc (Below.refl _ _) (.cells #[.slice none 0 0, .slice none 0 0, .slice none 0 0, .int .i64 0] 50))); clear HA; have HA := n_; clear n_))
        refine hK.out _ _ ⟨(((below_alloc (Below.refl _ _) _).cell (World.block_lt_of_cell? _ _ hHeld.1)).trans hHeld.1), (((below_alloc (Below.refl _ _) _).cell (World.block_lt_of_cell? _ _ hHeld.2.1)).trans hHeld.2.1), (((below_alloc (Below.refl _ _) _).cell (World.block_lt_of_cell? _ _ hHeld.2.2.1)).trans hHeld.2.2.1), (below_alloc hHeld.2.2.2 _)⟩ (fun hHeld => ?_)
        clear hK K
        refine norm_ (a' := ?_) ?_ ?_
        rotate_left
        · show Act.put _ (some 3) _ = _
          simp only [Act.put, List.setIfInBounds_toArray, List.set_cons_zero, List.set_cons_succ, i64_w, i32_w]
          rfl
        refine one_ (i := 5) (N := some 15) #[true, true, true, true, true, true, true, true, false, true, false] rfl rfl (by kernel_rfl) (by decide) (fun K hK => ?_)
        refine goes_ Try.func70 (by kernel_rfl) rfl #[.slice A0_1 l0_1.length c0_1] (by rfl) rfl rfl (by simp only [List.map_toArray, List.map_cons, List.map_nil]; rfl) ?_
        with_reducible refine (Clone70.calls _ _ l0_1 _ (Kd.C_below E1.out hHeld.2.2.2) HC1.out HOK.out.2.1).mono ?_
        rintro e w7 ⟨vA, rfl, hR, hb⟩
        refine ⟨_, rfl, ?_⟩
        obtain ⟨AA, cA, rfl, _, _⟩ := Kd.R_reads hR
        have HA := Aside0.mk (Kd.R_lower hR hHeld.2.2.2.size)
        clear hR
        (try (have n_ := Aside0.mk (blk_below HK.out hb); clear HK; have HK := n_; clear n_))
        (try (have n_ := Aside0.mk (Kd.R_below HP.out hb); clear HP; have HP := n_; clear n_))
        refine hK.out _ _ ⟨((hb.cell (World.block_lt_of_cell? _ _ hHeld.1)).trans hHeld.1), ((hb.cell (World.block_lt_of_cell? _ _ hHeld.2.1)).trans hHeld.2.1), ((hb.cell (World.block_lt_of_cell? _ _ hHeld.2.2.1)).trans hHeld.2.2.1), (below_then hHeld.2.2.2 hHeld.2.2.2.size hb)⟩ (fun hHeld => ?_)
        clear hK K
        refine norm_ (a' := ?_) ?_ ?_
        rotate_left
        · show Act.put _ (some 15) _ = _
          simp only [Act.put, List.setIfInBounds_toArray, List.set_cons_zero, List.set_cons_succ, i64_w, i32_w]
          rfl
        refine pure_ (i := 8) (N := some 18) (v := ?_) (a' := ?_) #[true, true, true, true, true, true, true, true, true, true, false] rfl rfl (by kernel_rfl) (fun _ _ _ h => h) (Or.inl ⟨by rfl, ?_⟩) ?_ ?_
        rotate_left
        · intro w'
          go_simp
          with_reducible rfl
        rotate_left
        · simp only [Act.put, List.setIfInBounds_toArray, List.set_cons_zero, List.set_cons_succ, i64_w, i32_w]
          rfl
        exact norm_ (by simp only [putAll, Act.put, List.setIfInBounds_toArray, List.set_cons_zero, List.set_cons_succ]) (hCont (.slice AP _ cP, .slice AA _ cA, w5.heap.size) _ ⟨hHeld.2.2.2, HK.out, HN.out, Kd.R_types HP.out HK.out (by decide), Kd.R_types HA.out HK.out (by decide)⟩)
    · skip
      refine value_ (w1 := ?_) (v := ?_) (by rfl) rfl ?_ ?_
      rotate_left 2
      · go_simp
        constructor
        · rfl
        · rfl
      have HN := Aside0.mk hHeld.2.2.2.size
      have HK := Aside0.mk (heap_alloc_new wd (.cells #[.slice none 0 0, .slice none 0 0, .slice none 0 0, .int .i64 0] 50))
      (try (have n_ := Aside0.mk (Kd.R_below HP.out (below_alloc (Below.refl _ _) (.cells #[.slice none 0 0, .slice none 0 0, .slice none 0 0, .int .i64 0] 50))); clear HP; have HP := n_; clear n_))
      (try (have n_ := Aside0.mk (Kd.R_below HA.out (below_alloc (Below.refl _ _) (.cells #[.slice none 0 0, .slice none 0 0, .slice none 0 0, .int .i64 0] 50))); clear HA; have HA := n_; clear n_))
      refine hK.out _ _ ⟨(((below_alloc (Below.refl _ _) _).cell (World.block_lt_of_cell? _ _ hHeld.1)).trans hHeld.1), (((below_alloc (Below.refl _ _) _).cell (World.block_lt_of_cell? _ _ hHeld.2.1)).trans hHeld.2.1), (((below_alloc (Below.refl _ _) _).cell (World.block_lt_of_cell? _ _ hHeld.2.2.1)).trans hHeld.2.2.1), (below_alloc hHeld.2.2.2 _)⟩ (fun hHeld => ?_)
      clear hK K
      refine norm_ (a' := ?_) ?_ ?_
      rotate_left
      · show Act.put _ (some 3) _ = _
        simp only [Act.put, List.setIfInBounds_toArray, List.set_cons_zero, List.set_cons_succ, i64_w, i32_w]
        rfl
      refine one_ (i := 2) (N := some 12) #[true, true, true, true, true, false, true, true, false, true, false] rfl rfl (by kernel_rfl) (by decide) (fun K hK => ?_)
      refine goes_ Try.func69 (by kernel_rfl) rfl #[.slice A0_0 l0_0.length c0_0] (by rfl) rfl rfl (by simp only [List.map_toArray, List.map_cons, List.map_nil]; rfl) ?_
      with_reducible refine (Clone69.calls _ _ l0_0 _ (Kd.C_below E0.out hHeld.2.2.2) HC0.out HOK.out.1).mono ?_
      rintro e w5 ⟨vP, rfl, hR, hb⟩
      refine ⟨_, rfl, ?_⟩
      obtain ⟨AP, cP, rfl, _, _⟩ := Kd.R_reads hR
      have HP := Aside0.mk (Kd.R_lower hR hHeld.2.2.2.size)
      clear hR
      (try (have n_ := Aside0.mk (blk_below HK.out hb); clear HK; have HK := n_; clear n_))
      (try (have n_ := Aside0.mk (Kd.R_below HA.out hb); clear HA; have HA := n_; clear n_))
      refine hK.out _ _ ⟨((hb.cell (World.block_lt_of_cell? _ _ hHeld.1)).trans hHeld.1), ((hb.cell (World.block_lt_of_cell? _ _ hHeld.2.1)).trans hHeld.2.1), ((hb.cell (World.block_lt_of_cell? _ _ hHeld.2.2.1)).trans hHeld.2.2.1), (below_then hHeld.2.2.2 hHeld.2.2.2.size hb)⟩ (fun hHeld => ?_)
      clear hK K
      refine norm_ (a' := ?_) ?_ ?_
      rotate_left
      · show Act.put _ (some 12) _ = _
        simp only [Act.put, List.setIfInBounds_toArray, List.set_cons_zero, List.set_cons_succ, i64_w, i32_w]
        rfl
      refine one_ (i := 5) (N := some 15) #[true, true, true, true, true, true, true, true, false, true, false] rfl rfl (by kernel_rfl) (by decide) (fun K hK => ?_)
      refine goes_ Try.func70 (by kernel_rfl) rfl #[.slice A0_1 l0_1.length c0_1] (by rfl) rfl rfl (by simp only [List.map_toArray, List.map_cons, List.map_nil]; rfl) ?_
      with_reducible refine (Clone70.calls _ _ l0_1 _ (Kd.C_below E1.out hHeld.2.2.2) HC1.out HOK.out.2.1).mono ?_
      rintro e w7 ⟨vA, rfl, hR, hb⟩
      refine ⟨_, rfl, ?_⟩
      obtain ⟨AA, cA, rfl, _, _⟩ := Kd.R_reads hR
      have HA := Aside0.mk (Kd.R_lower hR hHeld.2.2.2.size)
      clear hR
      (try (have n_ := Aside0.mk (blk_below HK.out hb); clear HK; have HK := n_; clear n_))
      (try (have n_ := Aside0.mk (Kd.R_below HP.out hb); clear HP; have HP := n_; clear n_))
      refine hK.out _ _ ⟨((hb.cell (World.block_lt_of_cell? _ _ hHeld.1)).trans hHeld.1), ((hb.cell (World.block_lt_of_cell? _ _ hHeld.2.1)).trans hHeld.2.1), ((hb.cell (World.block_lt_of_cell? _ _ hHeld.2.2.1)).trans hHeld.2.2.1), (below_then hHeld.2.2.2 hHeld.2.2.2.size hb)⟩ (fun hHeld => ?_)
      clear hK K
      refine norm_ (a' := ?_) ?_ ?_
      rotate_left
      · show Act.put _ (some 15) _ = _
        simp only [Act.put, List.setIfInBounds_toArray, List.set_cons_zero, List.set_cons_succ, i64_w, i32_w]
        rfl
      refine pure_ (i := 8) (N := some 18) (v := ?_) (a' := ?_) #[true, true, true, true, true, true, true, true, true, true, false] rfl rfl (by kernel_rfl) (fun _ _ _ h => h) (Or.inl ⟨by rfl, ?_⟩) ?_ ?_
      rotate_left
      · intro w'
        go_simp
        with_reducible rfl
      rotate_left
      · simp only [Act.put, List.setIfInBounds_toArray, List.set_cons_zero, List.set_cons_succ, i64_w, i32_w]
        rfl
      exact norm_ (by simp only [putAll, Act.put, List.setIfInBounds_toArray, List.set_cons_zero, List.set_cons_succ]) (hCont (.slice AP _ cP, .slice AA _ cA, wd.heap.size) _ ⟨hHeld.2.2.2, HK.out, HN.out, Kd.R_types HP.out HK.out (by decide), Kd.R_types HA.out HK.out (by decide)⟩)
  rintro ⟨vP, vA, B3⟩ w6 ⟨hB5, hK6, hN6, hP6, hA6⟩
  dsimp only at hK6 hN6 hP6 hA6
  obtain ⟨AP, cP, rfl, lP, _⟩ := Kd.R_reads hP6
  obtain ⟨AA, cA, rfl, lA, _⟩ := Kd.R_reads hA6
  have HP6 := Aside0.mk hP6
  have HA6 := Aside0.mk hA6
  have HK6 := Aside0.mk hK6
  have HN6 := Aside0.mk hN6
  have HB6 := Aside0.mk hB5
  have hHeld := (⟨(hB5.cell (World.block_lt_of_cell? _ _ z0)).trans z0, (hB5.cell (World.block_lt_of_cell? _ _ z1)).trans z1, (hB5.cell (World.block_lt_of_cell? _ _ z3)).trans z3, hB5⟩ : w6.cell? ⟨w.heap.size, 0, none⟩ = some (.slice A0_0 l0_0.length c0_0) ∧ w6.cell? ⟨w.heap.size, 1, none⟩ = some (.slice A0_1 l0_1.length c0_1) ∧ w6.cell? ⟨w.heap.size, 3, none⟩ = some (.int .i64 a0_3) ∧ Below W0.heap.size W0 w6)
  have y0 := (blk_cell hK6 0).trans rfl
  have y1 := (blk_cell hK6 1).trans rfl
  have y2 := (blk_cell hK6 2).trans rfl
  have y3 := (blk_cell hK6 3).trans rfl
  have f0 := blk_frozen hK6 0
  have f1 := blk_frozen hK6 1
  have f2 := blk_frozen hK6 2
  have f3 := blk_frozen hK6 3
  clear hK6 hP6 hA6 hN6 hB5 lP lA
  refine norm_ (a' := ?_) ?_ ?_
  rotate_left
  · simp only [putAll, Act.put, List.setIfInBounds_toArray, List.set_cons_zero, List.set_cons_succ]
    rfl
  refine last_ (i := 10) (N := none) #[true, true, true, true, true, true, true, true, true, true, true] rfl rfl (by kernel_rfl) (by decide) (fun K hK => ?_)
  refine skip_ (w1 := ?_) (by rfl) rfl ?_ ?_
  rotate_left
  · go_simp
    rfl
  refine hK.out _ _ ?_
  clear hK K
  refine done_ (by kernel_rfl) ?_
  have HB1 := Aside0.mk (sets_below (g := B3) (by have := HB0.out.size; have := HN6.out; omega) [.slice AP l0_0.length cP, .slice AA l0_1.length cA, .slice none 0 0, .int .i64 a0_3] 0 (below_then HB0.out HB0.out.size HB6.out))
  have BKo := Aside0.mk (sets_all (vs := [.slice AP l0_0.length cP, .slice AA l0_1.length cA, .slice none 0 0, .int .i64 a0_3]) HK6.out rfl)
  have BKb1 := Aside0.mk (sets_blk (g := B3) (blk_below BKb.out HB6.out) (by have := blk_lt BKb.out; have := HN6.out; omega) [.slice AP l0_0.length cP, .slice AA l0_1.length cA, .slice none 0 0, .int .i64 a0_3] 0)
  have BKr1 := Aside0.mk (sets_blk (g := B3) (blk_below BKr.out HB6.out) (by have := blk_lt BKr.out; have := HN6.out; omega) [.slice AP l0_0.length cP, .slice AA l0_1.length cA, .slice none 0 0, .int .i64 a0_3] 0)
  have HP1 := Aside0.mk (Kd.R_lower (sets_R (g := B3) HP6.out (fun k hk => hk.2) [.slice AP l0_0.length cP, .slice AA l0_1.length cA, .slice none 0 0, .int .i64 a0_3] 0) HB0.out.size)
  have HA1 := Aside0.mk (Kd.R_lower (sets_R (g := B3) HA6.out (fun k hk => hk.2) [.slice AP l0_0.length cP, .slice AA l0_1.length cA, .slice none 0 0, .int .i64 a0_3] 0) HB0.out.size)
  have HGE := Aside0.mk (show w.heap.size + 1 < B3 by have := blk_lt BKr.out; have := HN6.out; omega)
  clear HK6 HP6 HA6 HB6 HN6 hHeld y0 y1 y2 y3 f0 f1 f2 f3 BKb BKr E0 E1 z0 z1 z3 HB0
  rw [show ((((w6.setCell ⟨B3, 0, none⟩ (.slice AP l0_0.length cP)).setCell ⟨B3, 1, none⟩ (.slice AA l0_1.length cA)).setCell ⟨B3, 2, none⟩ (.slice none 0 0)).setCell ⟨B3, 3, none⟩ (.int .i64 a0_3)) = w6.setCells B3 0 [.slice AP l0_0.length cP, .slice AA l0_1.length cA, .slice none 0 0, .int .i64 a0_3] from rfl]
  generalize w6.setCells B3 0 [.slice AP l0_0.length cP, .slice AA l0_1.length cA, .slice none 0 0, .int .i64 a0_3] = W1 at BKo BKb1 BKr1 HP1 HA1 HB1 ⊢
  have z2 : W1.cell? ⟨w.heap.size, 2, none⟩ = some (.slice A0_2 l0_2.length c0_2) := (blk_cell BKb1.out 2).trans rfl
  go_wp2
  go_loopw [22] (fun v22 wr => ∃ (q : Nat) (vF : Value), q ≤ l0_2.length ∧ v22 = .int .i64 (q : Int) ∧ Aside0 (wr.heap[B3]? = some (.cells #[.slice AP l0_0.length cP, .slice AA l0_1.length cA, vF, .int .i64 a0_3] 50 (0, 0))) ∧ Aside0 (Kd.S s26 26 wr w.heap.size (fun k => W1.heap.size ≤ k) vF (l0_2.take q)) ∧ Aside0 (Below w.heap.size w wr) ∧ Aside0 (∀ k, k < W1.heap.size → k ≠ B3 → wr.heap[k]? = W1.heap[k]?) ∧ Aside0 (W1.heap.size ≤ wr.heap.size)) (fun v22 _ => l0_2.length - (intOf v22).toNat)
  case atStart => exact ⟨0, _, Nat.zero_le _, rfl, BKo, ⟨Kd.S_nil _ _ _ _ _⟩, HB1, ⟨fun _ _ _ => rfl⟩, ⟨Nat.le_refl _⟩⟩
  case round =>
    obtain ⟨q, vF, hq, rfl, BK, HS, HB, HKW, HSZ⟩ := hrel
    by_cases hlt : q < l0_2.length
    · obtain ⟨wo, rfl⟩ : ∃ wo : World, wo = wr := ⟨_, rfl⟩
      have HLT := Aside0.mk hlt
      have hltb : decide ((q : Int) < (l0_2.length : Int)) = true := decide_eq_true (by omega)
      have hlti : (q : Int) < (l0_2.length : Int) := by omega
      have HG := Aside0.mk (show okGr (rd_T26 l0_2 (q : Int)) from HOK.out.2.2.2 _ (by unfold rd_T26; rw [Int.toNat_natCast, List.getD_eq_getElem?_getD, List.getElem?_eq_getElem hlt]; exact List.getElem_mem hlt))
      have HQ := Aside0.mk (show rd_T26 l0_2 (q : Int) = l0_2[q]'HLT.out by unfold rd_T26; rw [Int.toNat_natCast, List.getD_eq_getElem?_getD, List.getElem?_eq_getElem hlt]; rfl)
      have hq2 : (q : Int) + 1 ≤ 9223372036854775807 := by have := HOK.out.2.2.1; omega
      obtain ⟨adg, Ap, cp, Aa, ca, Ab, cb, e2, x0, x1, x2, x3, l0, g0, l2, g2, l3, g3⟩ := at_T26 HR2.out (q : Int) (by omega) hlti
      cases e2
      generalize rd_T26 l0_2 (q : Int) = gr at *
      replace HG := Aside0.mk (show _ ∧ _ ∧ _ ∧ _ from HG.out)
      simp only [Int.toNat_natCast] at x0 x1 x2 x3
      have x0 := (HB.out.cell (World.block_lt_of_cell? w _ x0)).trans x0
      have x1 := (HB.out.cell (World.block_lt_of_cell? w _ x1)).trans x1
      have x2 := (HB.out.cell (World.block_lt_of_cell? w _ x2)).trans x2
      have x3 := (HB.out.cell (World.block_lt_of_cell? w _ x3)).trans x3
      have G0 := Aside0.mk g0
      have G2 := Aside0.mk g2
      have G3 := Aside0.mk g3
      have L0 := Aside0.mk l0
      have L2 := Aside0.mk l2
      clear l0 g0 l2 g2 l3 g3 hlt
      go_wp2_with fail
      have BK5 := Aside0.mk (heap_alloc_new wo (.cells #[.slice Ap gr.f0.length cp, .int .i64 gr.f1, .slice Aa gr.f2.length ca, .slice Ab gr.f3.length cb] 26))
      have HV0 := Aside0.mk (below_alloc (Below.refl wo.heap.size wo) (.cells #[.slice Ap gr.f0.length cp, .int .i64 gr.f1, .slice Aa gr.f2.length ca, .slice Ab gr.f3.length cb] 26))
      have HSZ0 := Aside0.mk (World.size_alloc wo (.cells #[.slice Ap gr.f0.length cp, .int .i64 gr.f1, .slice Aa gr.f2.length ca, .slice Ab gr.f3.length cb] 26))
      clear x0 x1 x2 x3
      generalize wo.alloc (.cells #[.slice Ap gr.f0.length cp, .int .i64 gr.f1, .slice Aa gr.f2.length ca, .slice Ab gr.f3.length cb] 26) = W0 at BK5 HV0 HSZ0 ⊢
      have z0 : W0.cell? ⟨wo.heap.size, 0, none⟩ = some (.slice Ap gr.f0.length cp) := (blk_cell BK5.out 0).trans rfl
      have z1 : W0.cell? ⟨wo.heap.size, 1, none⟩ = some (.int .i64 gr.f1) := (blk_cell BK5.out 1).trans rfl
      have z2 : W0.cell? ⟨wo.heap.size, 2, none⟩ = some (.slice Aa gr.f2.length ca) := (blk_cell BK5.out 2).trans rfl
      have E0 := Aside0.mk (Kd.C_below (Kd.C_below G0.out HB.out) HV0.out)
      have E2 := Aside0.mk (Kd.C_below (Kd.C_below G2.out HB.out) HV0.out)
      refine start_ (n := 11) (S := fun w' => w'.cell? ⟨wo.heap.size, 0, none⟩ = some (.slice Ap gr.f0.length cp) ∧ w'.cell? ⟨wo.heap.size, 1, none⟩ = some (.int .i64 gr.f1) ∧ w'.cell? ⟨wo.heap.size, 2, none⟩ = some (.slice Aa gr.f2.length ca) ∧ Below W0.heap.size W0 w') (ds := [10]) #[false, false, false, false, false, false, false, false, false, false, false] (by kernel_rfl) rfl rfl ⟨z0, z1, z2, (below_drew (Below.refl W0.heap.size W0))⟩ (fun hHeld => ?_)
      generalize W0.drew = wd at  hHeld ⊢
      refine pure_ (i := 0) (N := some 26) (v := ?_) (a' := ?_) #[true, false, false, false, false, false, false, false, false, false, false] rfl rfl (by kernel_rfl) (fun _ _ _ h => h) (Or.inl ⟨by rfl, ?_⟩) ?_ ?_
      rotate_left
      · intro w'
        go_simp
        with_reducible rfl
      rotate_left
      · simp only [Act.put, List.setIfInBounds_toArray, List.set_cons_zero, List.set_cons_succ, i64_w, i32_w]
        rfl
      refine pure_ (i := 3) (N := some 29) (v := ?_) (a' := ?_) #[true, false, false, true, false, false, false, false, false, false, false] rfl rfl (by kernel_rfl) (fun _ _ _ h => h) (Or.inl ⟨by rfl, ?_⟩) ?_ ?_
      rotate_left
      · intro w'
        go_simp
        with_reducible rfl
      rotate_left
      · simp only [Act.put, List.setIfInBounds_toArray, List.set_cons_zero, List.set_cons_succ, i64_w, i32_w]
        rfl
      refine pure_ (i := 5) (N := some 31) (v := ?_) (a' := ?_) #[true, false, false, true, false, true, false, false, false, false, false] rfl rfl (by kernel_rfl) (fun _ _ _ h => h) (Or.inl ⟨by rfl, ?_⟩) ?_ ?_
      rotate_left
      · intro w'
        go_simp
        with_reducible rfl
      rotate_left
      · simp only [Act.put, List.setIfInBounds_toArray, List.set_cons_zero, List.set_cons_succ, i64_w, i32_w]
        rfl
      refine take_ (i := 1) (N := some 27) (v := ?_) (a' := ?_) #[true, true, false, true, false, true, false, false, false, false, false] rfl rfl (by kernel_rfl) (fun _ _ _ h => h) (Or.inl ⟨by rfl, ?_⟩) hHeld ?_ ?_
      rotate_left
      · rintro w' ⟨s0, s1, s2, s3⟩
        go_simp
        with_reducible rfl
      rotate_left
      · simp only [Act.put, List.setIfInBounds_toArray, List.set_cons_zero, List.set_cons_succ, i64_w, i32_w]
        rfl
      refine take_ (i := 4) (N := some 30) (v := ?_) (a' := ?_) #[true, true, false, true, true, true, false, false, false, false, false] rfl rfl (by kernel_rfl) (fun _ _ _ h => h) (Or.inl ⟨by rfl, ?_⟩) hHeld ?_ ?_
      rotate_left
      · rintro w' ⟨s0, s1, s2, s3⟩
        go_simp
        with_reducible rfl
      rotate_left
      · simp only [Act.put, List.setIfInBounds_toArray, List.set_cons_zero, List.set_cons_succ, i64_w, i32_w]
        rfl
      refine take_ (i := 6) (N := some 32) (v := ?_) (a' := ?_) #[true, true, false, true, true, true, true, false, false, false, false] rfl rfl (by kernel_rfl) (fun _ _ _ h => h) (Or.inl ⟨by rfl, ?_⟩) hHeld ?_ ?_
      rotate_left
      · rintro w' ⟨s0, s1, s2, s3⟩
        go_simp
        with_reducible rfl
      rotate_left
      · simp only [Act.put, List.setIfInBounds_toArray, List.set_cons_zero, List.set_cons_succ, i64_w, i32_w]
        rfl
      refine join_ (σ := Value × Value × Nat) 1 #[true, true, true, true, true, true, true, true, true, true, false] (fun s_ => [(28, s_.1), (6, .pointer (some ⟨s_.2.2, 0, none⟩)), (33, s_.2.1), (34, .agg #[s_.1, .int .i64 gr.f1, s_.2.1, .slice none 0 0])]) (fun s_ w' => Below W0.heap.size W0 w' ∧ w'.heap[s_.2.2]? = some (.cells #[.slice none 0 0, .int .i64 0, .slice none 0 0, .slice none 0 0] 26 (0, 0)) ∧ W0.heap.size ≤ s_.2.2 ∧ Kd.R (Kd.int .i64) 3 w' W0.heap.size (fun k => True ∧ k ≠ s_.2.2) s_.1 gr.f0 ∧ Kd.R k79 79 w' W0.heap.size (fun k => True ∧ k ≠ s_.2.2) s_.2.1 gr.f2) ?_ ?_
      rotate_left
      · intro hCont
        refine two_ (i := 2) (j := 9) (Ni := some 28) (Nj := some 6) #[true, true, true, true, true, true, true, false, false, false, false] #[true, true, false, true, true, true, true, false, false, true, false] rfl rfl rfl rfl (by kernel_rfl) (by decide) (by decide) (fun K hK => ?_) (fun K hK => ?_)
        · skip
          refine goes_ Try.func70 (by kernel_rfl) rfl #[.slice Ap gr.f0.length cp] (by rfl) rfl rfl (by simp only [List.map_toArray, List.map_cons, List.map_nil]; rfl) ?_
          with_reducible refine (Clone70.calls _ _ gr.f0 _ (Kd.C_below E0.out hHeld.2.2.2) L0.out HG.out.1).mono ?_
          rintro e w5 ⟨vP, rfl, hR, hb⟩
          refine ⟨_, rfl, ?_⟩
          obtain ⟨AP, cP, rfl, _, _⟩ := Kd.R_reads hR
          have HP := Aside0.mk (Kd.R_lower hR hHeld.2.2.2.size)
          clear hR
          (try (have n_ := Aside0.mk (blk_below HK.out hb); clear HK; have HK := n_; clear n_))
          (try (have n_ := Aside0.mk (Kd.R_below HA.out hb); clear HA; have HA := n_; clear n_))
          refine hK.out _ _ ⟨((hb.cell (World.block_lt_of_cell? _ _ hHeld.1)).trans hHeld.1), ((hb.cell (World.block_lt_of_cell? _ _ hHeld.2.1)).trans hHeld.2.1), ((hb.cell (World.block_lt_of_cell? _ _ hHeld.2.2.1)).trans hHeld.2.2.1), (below_then hHeld.2.2.2 hHeld.2.2.2.size hb)⟩ (fun hHeld => ?_)
          clear hK K
          refine norm_ (a' := ?_) ?_ ?_
          rotate_left
          · show Act.put _ (some 28) _ = _
            simp only [Act.put, List.setIfInBounds_toArray, List.set_cons_zero, List.set_cons_succ, i64_w, i32_w]
            rfl
          refine two_ (i := 7) (j := 9) (Ni := some 33) (Nj := some 6) #[true, true, true, true, true, true, true, true, false, false, false] #[true, true, true, true, true, true, true, false, false, true, false] rfl rfl rfl rfl (by kernel_rfl) (by decide) (by decide) (fun K hK => ?_) (fun K hK => ?_)
          · skip
            refine goes_ Try.func71 (by kernel_rfl) rfl #[.slice Aa gr.f2.length ca] (by rfl) rfl rfl (by simp only [List.map_toArray, List.map_cons, List.map_nil]; rfl) ?_
            with_reducible refine (Clone71.calls _ _ gr.f2 _ (Kd.C_below E2.out hHeld.2.2.2) L2.out HG.out.2.1).mono ?_
            rintro e w7 ⟨vA, rfl, hR, hb⟩
            refine ⟨_, rfl, ?_⟩
            obtain ⟨AA, cA, rfl, _, _⟩ := Kd.R_reads hR
            have HA := Aside0.mk (Kd.R_lower hR hHeld.2.2.2.size)
            clear hR
            (try (have n_ := Aside0.mk (blk_below HK.out hb); clear HK; have HK := n_; clear n_))
            (try (have n_ := Aside0.mk (Kd.R_below HP.out hb); clear HP; have HP := n_; clear n_))
            refine hK.out _ _ ⟨((hb.cell (World.block_lt_of_cell? _ _ hHeld.1)).trans hHeld.1), ((hb.cell (World.block_lt_of_cell? _ _ hHeld.2.1)).trans hHeld.2.1), ((hb.cell (World.block_lt_of_cell? _ _ hHeld.2.2.1)).trans hHeld.2.2.1), (below_then hHeld.2.2.2 hHeld.2.2.2.size hb)⟩ (fun hHeld => ?_)
            clear hK K
            refine norm_ (a' := ?_) ?_ ?_
            rotate_left
            · show Act.put _ (some 33) _ = _
              simp only [Act.put, List.setIfInBounds_toArray, List.set_cons_zero, List.set_cons_succ, i64_w, i32_w]
              rfl
            refine pure_ (i := 8) (N := some 34) (v := ?_) (a' := ?_) #[true, true, true, true, true, true, true, true, true, false, false] rfl rfl (by kernel_rfl) (fun _ _ _ h => h) (Or.inl ⟨by rfl, ?_⟩) ?_ ?_
            rotate_left
            · intro w'
              go_simp
              with_reducible rfl
            rotate_left
            · simp only [Act.put, List.setIfInBounds_toArray, List.set_cons_zero, List.set_cons_succ, i64_w, i32_w]
              rfl
            refine one_ (i := 9) (N := some 6) #[true, true, true, true, true, true, true, true, true, true, false] rfl rfl (by kernel_rfl) (by decide) (fun K hK => ?_)
            refine value_ (w1 := ?_) (v := ?_) (by rfl) rfl ?_ ?_
            rotate_left 2
            · go_simp
              constructor
              · rfl
              · rfl
            have HN := Aside0.mk hHeld.2.2.2.size
            have HK := Aside0.mk (heap_alloc_new w7 (.cells #[.slice none 0 0, .int .i64 0, .slice none 0 0, .slice none 0 0] 26))
            (try (have n_ := Aside0.mk (Kd.R_below HP.out (below_alloc (Below.refl _ _) (.cells #[.slice none 0 0, .int .i64 0, .slice none 0 0, .slice none 0 0] 26))); clear HP; have HP := n_; clear n_))
            (try (have n_ := Aside0.mk (Kd.R_below HA.out (below_alloc (Below.refl _ _) (.cells #[.slice none 0 0, .int .i64 0, .slice none 0 0, .slice none 0 0] 26))); clear HA; have HA := n_; clear n_))
            refine hK.out _ _ ⟨(((below_alloc (Below.refl _ _) _).cell (World.block_lt_of_cell? _ _ hHeld.1)).trans hHeld.1), (((below_alloc (Below.refl _ _) _).cell (World.block_lt_of_cell? _ _ hHeld.2.1)).trans hHeld.2.1), (((below_alloc (Below.refl _ _) _).cell (World.block_lt_of_cell? _ _ hHeld.2.2.1)).trans hHeld.2.2.1), (below_alloc hHeld.2.2.2 _)⟩ (fun hHeld => ?_)
            clear hK K
            refine norm_ (a' := ?_) ?_ ?_
            rotate_left
            · show Act.put _ (some 6) _ = _
              simp only [Act.put, List.setIfInBounds_toArray, List.set_cons_zero, List.set_cons_succ, i64_w, i32_w]
              rfl
            exact norm_ (by simp only [putAll, Act.put, List.setIfInBounds_toArray, List.set_cons_zero, List.set_cons_succ]) (hCont (.slice AP _ cP, .slice AA _ cA, w7.heap.size) _ ⟨hHeld.2.2.2, HK.out, HN.out, Kd.R_types HP.out HK.out (by decide), Kd.R_types HA.out HK.out (by decide)⟩)
          · skip
            refine value_ (w1 := ?_) (v := ?_) (by rfl) rfl ?_ ?_
            rotate_left 2
            · go_simp
              constructor
              · rfl
              · rfl
            have HN := Aside0.mk hHeld.2.2.2.size
            have HK := Aside0.mk (heap_alloc_new w5 (.cells #[.slice none 0 0, .int .i64 0, .slice none 0 0, .slice none 0 0] 26))
            (try (have n_ := Aside0.mk (Kd.R_below HP.out (below_alloc (Below.refl _ _) (.cells #[.slice none 0 0, .int .i64 0, .slice none 0 0, .slice none 0 0] 26))); clear HP; have HP := n_; clear n_))
            (try (have n_ := Aside0.mk (Kd.R_below HA.out (below_alloc (Below.refl _ _) (.cells #[.slice none 0 0, .int .i64 0, .slice none 0 0, .slice none 0 0] 26))); clear HA; have HA := n_; clear n_))
            refine hK.out _ _ ⟨(((below_alloc (Below.refl _ _) _).cell (World.block_lt_of_cell? _ _ hHeld.1)).trans hHeld.1), (((below_alloc (Below.refl _ _) _).cell (World.block_lt_of_cell? _ _ hHeld.2.1)).trans hHeld.2.1), (((below_alloc (Below.refl _ _) _).cell (World.block_lt_of_cell? _ _ hHeld.2.2.1)).trans hHeld.2.2.1), (below_alloc hHeld.2.2.2 _)⟩ (fun hHeld => ?_)
            clear hK K
            refine norm_ (a' := ?_) ?_ ?_
            rotate_left
            · show Act.put _ (some 6) _ = _
              simp only [Act.put, List.setIfInBounds_toArray, List.set_cons_zero, List.set_cons_succ, i64_w, i32_w]
              rfl
            refine one_ (i := 7) (N := some 33) #[true, true, true, true, true, true, true, true, false, true, false] rfl rfl (by kernel_rfl) (by decide) (fun K hK => ?_)
            refine goes_ Try.func71 (by kernel_rfl) rfl #[.slice Aa gr.f2.length ca] (by rfl) rfl rfl (by simp only [List.map_toArray, List.map_cons, List.map_nil]; rfl) ?_
            with_reducible refine (Clone71.calls _ _ gr.f2 _ (Kd.C_below E2.out hHeld.2.2.2) L2.out HG.out.2.1).mono ?_
            rintro e w7 ⟨vA, rfl, hR, hb⟩
            refine ⟨_, rfl, ?_⟩
            obtain ⟨AA, cA, rfl, _, _⟩ := Kd.R_reads hR
            have HA := Aside0.mk (Kd.R_lower hR hHeld.2.2.2.size)
            clear hR
            (try (have n_ := Aside0.mk (blk_below HK.out hb); clear HK; have HK := n_; clear n_))
            (try (have n_ := Aside0.mk (Kd.R_below HP.out hb); clear HP; have HP := n_; clear n_))
            refine hK.out _ _ ⟨((hb.cell (World.block_lt_of_cell? _ _ hHeld.1)).trans hHeld.1), ((hb.cell (World.block_lt_of_cell? _ _ hHeld.2.1)).trans hHeld.2.1), ((hb.cell (World.block_lt_of_cell? _ _ hHeld.2.2.1)).trans hHeld.2.2.1), (below_then hHeld.2.2.2 hHeld.2.2.2.size hb)⟩ (fun hHeld => ?_)
            clear hK K
            refine norm_ (a' := ?_) ?_ ?_
            rotate_left
            · show Act.put _ (some 33) _ = _
              simp only [Act.put, List.setIfInBounds_toArray, List.set_cons_zero, List.set_cons_succ, i64_w, i32_w]
              rfl
            refine pure_ (i := 8) (N := some 34) (v := ?_) (a' := ?_) #[true, true, true, true, true, true, true, true, true, true, false] rfl rfl (by kernel_rfl) (fun _ _ _ h => h) (Or.inl ⟨by rfl, ?_⟩) ?_ ?_
            rotate_left
            · intro w'
              go_simp
              with_reducible rfl
            rotate_left
            · simp only [Act.put, List.setIfInBounds_toArray, List.set_cons_zero, List.set_cons_succ, i64_w, i32_w]
              rfl
            exact norm_ (by simp only [putAll, Act.put, List.setIfInBounds_toArray, List.set_cons_zero, List.set_cons_succ]) (hCont (.slice AP _ cP, .slice AA _ cA, w5.heap.size) _ ⟨hHeld.2.2.2, HK.out, HN.out, Kd.R_types HP.out HK.out (by decide), Kd.R_types HA.out HK.out (by decide)⟩)
        · skip
          refine value_ (w1 := ?_) (v := ?_) (by rfl) rfl ?_ ?_
          rotate_left 2
          · go_simp
            constructor
            · rfl
            · rfl
          have HN := Aside0.mk hHeld.2.2.2.size
          have HK := Aside0.mk (heap_alloc_new wd (.cells #[.slice none 0 0, .int .i64 0, .slice none 0 0, .slice none 0 0] 26))
          (try (have n_ := Aside0.mk (Kd.R_below HP.out (below_alloc (Below.refl _ _) (.cells #[.slice none 0 0, .int .i64 0, .slice none 0 0, .slice none 0 0] 26))); clear HP; have HP := n_; clear n_))
          (try (have n_ := Aside0.mk (Kd.R_below HA.out (below_alloc (Below.refl _ _) (.cells #[.slice none 0 0, .int .i64 0, .slice none 0 0, .slice none 0 0] 26))); clear HA; have HA := n_; clear n_))
          refine hK.out _ _ ⟨(((below_alloc (Below.refl _ _) _).cell (World.block_lt_of_cell? _ _ hHeld.1)).trans hHeld.1), (((below_alloc (Below.refl _ _) _).cell (World.block_lt_of_cell? _ _ hHeld.2.1)).trans hHeld.2.1), (((below_alloc (Below.refl _ _) _).cell (World.block_lt_of_cell? _ _ hHeld.2.2.1)).trans hHeld.2.2.1), (below_alloc hHeld.2.2.2 _)⟩ (fun hHeld => ?_)
          clear hK K
          refine norm_ (a' := ?_) ?_ ?_
          rotate_left
          · show Act.put _ (some 6) _ = _
            simp only [Act.put, List.setIfInBounds_toArray, List.set_cons_zero, List.set_cons_succ, i64_w, i32_w]
            rfl
          refine one_ (i := 2) (N := some 28) #[true, true, true, true, true, true, true, false, false, true, false] rfl rfl (by kernel_rfl) (by decide) (fun K hK => ?_)
          refine goes_ Try.func70 (by kernel_rfl) rfl #[.slice Ap gr.f0.length cp] (by rfl) rfl rfl (by simp only [List.map_toArray, List.map_cons, List.map_nil]; rfl) ?_
          with_reducible refine (Clone70.calls _ _ gr.f0 _ (Kd.C_below E0.out hHeld.2.2.2) L0.out HG.out.1).mono ?_
          rintro e w5 ⟨vP, rfl, hR, hb⟩
          refine ⟨_, rfl, ?_⟩
          obtain ⟨AP, cP, rfl, _, _⟩ := Kd.R_reads hR
          have HP := Aside0.mk (Kd.R_lower hR hHeld.2.2.2.size)
          clear hR
          (try (have n_ := Aside0.mk (blk_below HK.out hb); clear HK; have HK := n_; clear n_))
          (try (have n_ := Aside0.mk (Kd.R_below HA.out hb); clear HA; have HA := n_; clear n_))
          refine hK.out _ _ ⟨((hb.cell (World.block_lt_of_cell? _ _ hHeld.1)).trans hHeld.1), ((hb.cell (World.block_lt_of_cell? _ _ hHeld.2.1)).trans hHeld.2.1), ((hb.cell (World.block_lt_of_cell? _ _ hHeld.2.2.1)).trans hHeld.2.2.1), (below_then hHeld.2.2.2 hHeld.2.2.2.size hb)⟩ (fun hHeld => ?_)
          clear hK K
          refine norm_ (a' := ?_) ?_ ?_
          rotate_left
          · show Act.put _ (some 28) _ = _
            simp only [Act.put, List.setIfInBounds_toArray, List.set_cons_zero, List.set_cons_succ, i64_w, i32_w]
            rfl
          refine one_ (i := 7) (N := some 33) #[true, true, true, true, true, true, true, true, false, true, false] rfl rfl (by kernel_rfl) (by decide) (fun K hK => ?_)
          refine goes_ Try.func71 (by kernel_rfl) rfl #[.slice Aa gr.f2.length ca] (by rfl) rfl rfl (by simp only [List.map_toArray, List.map_cons, List.map_nil]; rfl) ?_
          with_reducible refine (Clone71.calls _ _ gr.f2 _ (Kd.C_below E2.out hHeld.2.2.2) L2.out HG.out.2.1).mono ?_
          rintro e w7 ⟨vA, rfl, hR, hb⟩
          refine ⟨_, rfl, ?_⟩
          obtain ⟨AA, cA, rfl, _, _⟩ := Kd.R_reads hR
          have HA := Aside0.mk (Kd.R_lower hR hHeld.2.2.2.size)
          clear hR
          (try (have n_ := Aside0.mk (blk_below HK.out hb); clear HK; have HK := n_; clear n_))
          (try (have n_ := Aside0.mk (Kd.R_below HP.out hb); clear HP; have HP := n_; clear n_))
          refine hK.out _ _ ⟨((hb.cell (World.block_lt_of_cell? _ _ hHeld.1)).trans hHeld.1), ((hb.cell (World.block_lt_of_cell? _ _ hHeld.2.1)).trans hHeld.2.1), ((hb.cell (World.block_lt_of_cell? _ _ hHeld.2.2.1)).trans hHeld.2.2.1), (below_then hHeld.2.2.2 hHeld.2.2.2.size hb)⟩ (fun hHeld => ?_)
          clear hK K
          refine norm_ (a' := ?_) ?_ ?_
          rotate_left
          · show Act.put _ (some 33) _ = _
            simp only [Act.put, List.setIfInBounds_toArray, List.set_cons_zero, List.set_cons_succ, i64_w, i32_w]
            rfl
          refine pure_ (i := 8) (N := some 34) (v := ?_) (a' := ?_) #[true, true, true, true, true, true, true, true, true, true, false] rfl rfl (by kernel_rfl) (fun _ _ _ h => h) (Or.inl ⟨by rfl, ?_⟩) ?_ ?_
          rotate_left
          · intro w'
            go_simp
            with_reducible rfl
          rotate_left
          · simp only [Act.put, List.setIfInBounds_toArray, List.set_cons_zero, List.set_cons_succ, i64_w, i32_w]
            rfl
          exact norm_ (by simp only [putAll, Act.put, List.setIfInBounds_toArray, List.set_cons_zero, List.set_cons_succ]) (hCont (.slice AP _ cP, .slice AA _ cA, wd.heap.size) _ ⟨hHeld.2.2.2, HK.out, HN.out, Kd.R_types HP.out HK.out (by decide), Kd.R_types HA.out HK.out (by decide)⟩)
      rintro ⟨vP, vA, B6⟩ w6 ⟨hB5, hK6, hN6, hP6, hA6⟩
      dsimp only at hK6 hN6 hP6 hA6
      obtain ⟨AP6, cP6, rfl, lP, _⟩ := Kd.R_reads hP6
      obtain ⟨AA6, cA6, rfl, lA, _⟩ := Kd.R_reads hA6
      have HP6 := Aside0.mk hP6
      have HA6 := Aside0.mk hA6
      have HK6 := Aside0.mk hK6
      have HN6 := Aside0.mk hN6
      have HB6 := Aside0.mk hB5
      have hHeld := (⟨(hB5.cell (World.block_lt_of_cell? _ _ z0)).trans z0, (hB5.cell (World.block_lt_of_cell? _ _ z1)).trans z1, (hB5.cell (World.block_lt_of_cell? _ _ z2)).trans z2, hB5⟩ : w6.cell? ⟨wo.heap.size, 0, none⟩ = some (.slice Ap gr.f0.length cp) ∧ w6.cell? ⟨wo.heap.size, 1, none⟩ = some (.int .i64 gr.f1) ∧ w6.cell? ⟨wo.heap.size, 2, none⟩ = some (.slice Aa gr.f2.length ca) ∧ Below W0.heap.size W0 w6)
      have y0 := (blk_cell hK6 0).trans rfl
      have y1 := (blk_cell hK6 1).trans rfl
      have y2 := (blk_cell hK6 2).trans rfl
      have y3 := (blk_cell hK6 3).trans rfl
      have f0 := blk_frozen hK6 0
      have f1 := blk_frozen hK6 1
      have f2 := blk_frozen hK6 2
      have f3 := blk_frozen hK6 3
      clear hK6 hP6 hA6 hN6 hB5 lP lA
      refine norm_ (a' := ?_) ?_ ?_
      rotate_left
      · simp only [putAll, Act.put, List.setIfInBounds_toArray, List.set_cons_zero, List.set_cons_succ]
        rfl
      refine last_ (i := 10) (N := none) #[true, true, true, true, true, true, true, true, true, true, true] rfl rfl (by kernel_rfl) (by decide) (fun K hK => ?_)
      refine skip_ (w1 := ?_) (by rfl) rfl ?_ ?_
      rotate_left
      · go_simp
        rfl
      refine hK.out _ _ ?_
      clear hK K
      refine done_ (by kernel_rfl) ?_
      have HV1 := Aside0.mk (sets_below (w0 := wo) (g := B6) (by have := HV0.out.size; have := HN6.out; omega) [.slice AP6 gr.f0.length cP6, .int .i64 gr.f1, .slice AA6 gr.f2.length cA6, .slice none 0 0] 0 (below_then HV0.out HV0.out.size HB6.out))
      have BKg := Aside0.mk (sets_all (vs := [.slice AP6 gr.f0.length cP6, .int .i64 gr.f1, .slice AA6 gr.f2.length cA6, .slice none 0 0]) HK6.out rfl)
      have BK5b := Aside0.mk (sets_blk (g := B6) (blk_below BK5.out HB6.out) (by have := blk_lt BK5.out; have := HN6.out; omega) [.slice AP6 gr.f0.length cP6, .int .i64 gr.f1, .slice AA6 gr.f2.length cA6, .slice none 0 0] 0)
      have HP7 := Aside0.mk (sets_R (g := B6) HP6.out (fun k hk => hk.2) [.slice AP6 gr.f0.length cP6, .int .i64 gr.f1, .slice AA6 gr.f2.length cA6, .slice none 0 0] 0)
      have HA7 := Aside0.mk (sets_R (g := B6) HA6.out (fun k hk => hk.2) [.slice AP6 gr.f0.length cP6, .int .i64 gr.f1, .slice AA6 gr.f2.length cA6, .slice none 0 0] 0)
      have HGE6 := Aside0.mk (show wo.heap.size < B6 by have := blk_lt BK5.out; have := HN6.out; omega)
      clear HK6 HB6 HP6 HA6 hHeld y0 y1 y2 y3 f0 f1 f2 f3 BK5 E0 E2 z0 z1 z2
      rw [show ((((w6.setCell ⟨B6, 0, none⟩ (.slice AP6 gr.f0.length cP6)).setCell ⟨B6, 1, none⟩ (.int .i64 gr.f1)).setCell ⟨B6, 2, none⟩ (.slice AA6 gr.f2.length cA6)).setCell ⟨B6, 3, none⟩ (.slice none 0 0)) = w6.setCells B6 0 [.slice AP6 gr.f0.length cP6, .int .i64 gr.f1, .slice AA6 gr.f2.length cA6, .slice none 0 0] from rfl]
      generalize w6.setCells B6 0 [.slice AP6 gr.f0.length cP6, .int .i64 gr.f1, .slice AA6 gr.f2.length cA6, .slice none 0 0] = V1 at BKg BK5b HP7 HA7 HV1 ⊢
      have z3 : V1.cell? ⟨wo.heap.size, 3, none⟩ = some (.slice Ab gr.f3.length cb) := (blk_cell BK5b.out 3).trans rfl
      go_wp2
      go_loopw [38] (fun v38 wr => ∃ (p : Nat) (vB : Value), p ≤ gr.f3.length ∧ v38 = .int .i64 (p : Int) ∧ Aside0 (wr.heap[B6]? = some (.cells #[.slice AP6 gr.f0.length cP6, .int .i64 gr.f1, .slice AA6 gr.f2.length cA6, vB] 26 (0, 0))) ∧ Aside0 (Kd.S s77 77 wr w.heap.size (fun k => V1.heap.size ≤ k) vB (gr.f3.take p)) ∧ Aside0 (Below wo.heap.size wo wr) ∧ Aside0 (∀ k, k < V1.heap.size → k ≠ B6 → wr.heap[k]? = V1.heap[k]?) ∧ Aside0 (V1.heap.size ≤ wr.heap.size)) (fun v38 _ => gr.f3.length - (intOf v38).toNat)
      case atStart => exact ⟨0, _, Nat.zero_le _, rfl, BKg, ⟨Kd.S_nil _ _ _ _ _⟩, HV1, ⟨fun _ _ _ => rfl⟩, ⟨Nat.le_refl _⟩⟩
      case round =>
        obtain ⟨p, vB, hp, rfl, BKi, HSi, HBi, HKi, HSZi⟩ := hrel
        by_cases hltp : p < gr.f3.length
        · obtain ⟨wi, rfl⟩ : ∃ wi : World, wi = wr := ⟨_, rfl⟩
          have HLTp := Aside0.mk hltp
          have hltpb : decide ((p : Int) < (gr.f3.length : Int)) = true := decide_eq_true (by omega)
          have hltpi : (p : Int) < (gr.f3.length : Int) := by omega
          have HOB := Aside0.mk (show _ ∧ _ ∧ _ ∧ _ from HG.out.2.2.2 (rd_T77 gr.f3 (p : Int)) (by unfold rd_T77; rw [Int.toNat_natCast, List.getD_eq_getElem?_getD, List.getElem?_eq_getElem hltp]; exact List.getElem_mem hltp))
          have HQb := Aside0.mk (show rd_T77 gr.f3 (p : Int) = gr.f3[p]'HLTp.out by unfold rd_T77; rw [Int.toNat_natCast, List.getD_eq_getElem?_getD, List.getElem?_eq_getElem hltp]; rfl)
          have hp2 : (p : Int) + 1 ≤ 9223372036854775807 := by have := HG.out.2.2.1; omega
          have HBwi := Aside0.mk (below_then HB.out HB.out.size HBi.out)
          obtain ⟨adb, Ac, cc, As, cs, At, ct, e2, x0, x1, x2, x3, x4, x5, x6, x7, x8, x9, lc, gc, ls, gs, lt, gt⟩ := at_T77 G3.out (p : Int) (by omega) hltpi
          cases e2
          generalize rd_T77 gr.f3 (p : Int) = bl at *
          simp only [Int.toNat_natCast] at x0 x1 x2 x3 x4 x5 x6 x7 x8 x9
          have x0 := (HBwi.out.cell (World.block_lt_of_cell? w _ x0)).trans x0
          have x1 := (HBwi.out.cell (World.block_lt_of_cell? w _ x1)).trans x1
          have x2 := (HBwi.out.cell (World.block_lt_of_cell? w _ x2)).trans x2
          have x3 := (HBwi.out.cell (World.block_lt_of_cell? w _ x3)).trans x3
          have x4 := (HBwi.out.cell (World.block_lt_of_cell? w _ x4)).trans x4
          have x5 := (HBwi.out.cell (World.block_lt_of_cell? w _ x5)).trans x5
          have x6 := (HBwi.out.cell (World.block_lt_of_cell? w _ x6)).trans x6
          have x7 := (HBwi.out.cell (World.block_lt_of_cell? w _ x7)).trans x7
          have x8 := (HBwi.out.cell (World.block_lt_of_cell? w _ x8)).trans x8
          have x9 := (HBwi.out.cell (World.block_lt_of_cell? w _ x9)).trans x9
          have GC := Aside0.mk gc
          have GS := Aside0.mk gs
          have GT := Aside0.mk gt
          have LC := Aside0.mk lc
          have LS := Aside0.mk ls
          have LT := Aside0.mk lt
          clear lc gc ls gs lt gt hltp z3
          go_wp2_with fail
          have BK8 := Aside0.mk (heap_alloc_new wi (.cells #[.slice Ac bl.f0.length cc, .int .i64 bl.f1.f0, .int .i64 bl.f1.f1, .int .i64 bl.f1.f2, .int .i64 bl.f1.f3, .int .u32 bl.f1.f4, .int .i64 bl.f1.f5, .int .i64 bl.f1.f6, .slice As bl.f1.f7.length cs, .slice At bl.f1.f8.length ct] 77))
          have HU0 := Aside0.mk (below_alloc (Below.refl wi.heap.size wi) (.cells #[.slice Ac bl.f0.length cc, .int .i64 bl.f1.f0, .int .i64 bl.f1.f1, .int .i64 bl.f1.f2, .int .i64 bl.f1.f3, .int .u32 bl.f1.f4, .int .i64 bl.f1.f5, .int .i64 bl.f1.f6, .slice As bl.f1.f7.length cs, .slice At bl.f1.f8.length ct] 77))
          have HSU0 := Aside0.mk (World.size_alloc wi (.cells #[.slice Ac bl.f0.length cc, .int .i64 bl.f1.f0, .int .i64 bl.f1.f1, .int .i64 bl.f1.f2, .int .i64 bl.f1.f3, .int .u32 bl.f1.f4, .int .i64 bl.f1.f5, .int .i64 bl.f1.f6, .slice As bl.f1.f7.length cs, .slice At bl.f1.f8.length ct] 77))
          clear x0 x1 x2 x3 x4 x5 x6 x7 x8 x9
          generalize wi.alloc (.cells #[.slice Ac bl.f0.length cc, .int .i64 bl.f1.f0, .int .i64 bl.f1.f1, .int .i64 bl.f1.f2, .int .i64 bl.f1.f3, .int .u32 bl.f1.f4, .int .i64 bl.f1.f5, .int .i64 bl.f1.f6, .slice As bl.f1.f7.length cs, .slice At bl.f1.f8.length ct] 77) = U0 at BK8 HU0 HSU0 ⊢
          refine (Clone72.raw Ac cc (d := kAt wi) rfl bl.f0 U0 (kAt_C (Kd.C_below GC.out HBwi.out) HU0.out) LC.out HOB.out.1).mono ?_
          rintro e u1 ⟨v, cells, rfl, ho, hR, hB⟩
          obtain ⟨AC, cC, rfl⟩ := own_slice ho
          have HCV := Aside0.mk (CodeV.start (w0 := wi) ho hR)
          have BK8a := Aside0.mk (blk_below BK8.out hB)
          have HBU := Aside0.mk (below_then HU0.out HU0.out.size hB)
          have HSU1 := Aside0.mk hB.size
          clear ho hR hB BK8
          have y0 : u1.cell? ⟨wi.heap.size, 0, none⟩ = some (.slice Ac bl.f0.length cc) := (blk_cell BK8a.out 0).trans rfl
          have f0 := blk_frozen BK8a.out 0
          go_wp2
          go_loopw [9, 49] (fun v9 v49 wr => ∃ j : Nat, j ≤ bl.f0.length ∧ v49 = .int .i64 (j : Int) ∧ Aside0 (wr.heap[wi.heap.size]? = some (.cells #[.slice AC bl.f0.length cC, .int .i64 bl.f1.f0, .int .i64 bl.f1.f1, .int .i64 bl.f1.f2, .int .i64 bl.f1.f3, .int .u32 bl.f1.f4, .int .i64 bl.f1.f5, .int .i64 bl.f1.f6, .slice As bl.f1.f7.length cs, .slice At bl.f1.f8.length ct] 77 (0, 0))) ∧ Aside0 (CodeV wi bl.f0 U0.heap.size (.slice AC bl.f0.length cC) j wr) ∧ Aside0 (Below wi.heap.size wi wr) ∧ Aside0 (U0.heap.size ≤ wr.heap.size)) (fun v9 v49 _ => bl.f0.length - (intOf v49).toNat)
          case atStart => exact ⟨0, Nat.zero_le _, rfl, ⟨blk_put (cs := #[.slice Ac bl.f0.length cc, .int .i64 bl.f1.f0, .int .i64 bl.f1.f1, .int .i64 bl.f1.f2, .int .i64 bl.f1.f3, .int .u32 bl.f1.f4, .int .i64 bl.f1.f5, .int .i64 bl.f1.f6, .slice As bl.f1.f7.length cs, .slice At bl.f1.f8.length ct]) BK8a.out 0 _ rfl⟩, ⟨HCV.out.far (by have := HSU0.out; omega) 0 _⟩, ⟨below_set HBU.out (Nat.le_refl _)⟩, ⟨by have e1 : (u1.setCell ⟨wi.heap.size, 0, none⟩ (.slice AC bl.f0.length cC)).heap.size = u1.heap.size := sets_size [.slice AC bl.f0.length cC] 0 u1; rw [e1]; exact HSU1.out⟩⟩
          case round =>
            obtain ⟨j, hj, rfl, BKc, HCj, HBj, HSj⟩ := hrel
            have y0 : wr.cell? ⟨wi.heap.size, 0, none⟩ = some (.slice AC bl.f0.length cC) := (blk_cell BKc.out 0).trans rfl
            by_cases hltj : j < bl.f0.length
            · obtain ⟨wj, rfl⟩ : ∃ wj : World, wj = wr := ⟨_, rfl⟩
              have HLTj := Aside0.mk hltj
              have hltjb : decide ((j : Int) < (bl.f0.length : Int)) = true := decide_eq_true (by omega)
              have hltji : (j : Int) < (bl.f0.length : Int) := by omega
              have hj2 : (j : Int) + 1 ≤ 9223372036854775807 := by have := HOB.out.1; omega
              rcases HCj.out with ⟨gC, cap, hv, HCI0⟩ | ⟨hnil, _⟩
              rotate_left
              · rw [hnil] at hltj; exact absurd hltj (Nat.not_lt_zero _)
              have HCI := Aside0.mk HCI0
              clear HCI0
              obtain ⟨rfl, rfl⟩ : AC = some ⟨gC, 0, none⟩ ∧ cC = cap := by injection hv with h1 h2 h3; exact ⟨h1, h3⟩
              clear hv
              obtain ⟨A6, c6, A7, c7, l6, k6, l7, k7, x6, x7, f6, f7⟩ := HCI.out.cells HLTj.out
              have HOI := Aside0.mk (HOB.out.2.1 (bl.f0[j]'HLTj.out) (List.getElem_mem HLTj.out))
              have K6 := Aside0.mk k6
              have K7 := Aside0.mk k7
              have L6 := Aside0.mk l6
              have L7 := Aside0.mk l7
              clear k6 k7 l6 l7
              clear hltj
              generalize hins : bl.f0[j]'HLTj.out = ins at *
              have HINS := Aside0.mk hins
              clear hins
              go_wp2_with fail
              have HGC := Aside0.mk (show wi.heap.size < gC by have := HCI.out.lt; have := HSU0.out; omega)
              have HCW := Aside0.mk (show gC < wj.heap.size from HCI.out.lt.2)
              refine start_ (n := 26) (S := fun w' => w'.cell? ⟨wi.heap.size, 0, none⟩ = some (.slice (some ⟨gC, 0, none⟩) bl.f0.length cC) ∧ w'.cell? ⟨gC, j * 8 + 7, none⟩ = some (.slice A7 ins.f7.length c7) ∧ Below wi.heap.size wi w') (ds := [25]) #[false, false, false, false, false, false, false, false, false, false, false, false, false, false, false, false, false, false, false, false, false, false, false, false, false, false] (by kernel_rfl) rfl rfl ⟨y0, x7, (below_drew HBj.out)⟩ (fun hHeld => ?_)
              refine pure_ (i := 0) (N := some 52) (v := ?_) (a' := ?_) #[true, false, false, false, false, false, false, false, false, false, false, false, false, false, false, false, false, false, false, false, false, false, false, false, false, false] rfl rfl (by kernel_rfl) (fun _ _ _ h => h) (Or.inl ⟨by rfl, ?_⟩) ?_ ?_
              rotate_left
              · intro w'
                go_simp
                with_reducible rfl
              rotate_left
              · simp only [Act.put, List.setIfInBounds_toArray, List.set_cons_zero, List.set_cons_succ, i64_w, i32_w]
                rfl
              refine pure_ (i := 2) (N := some 54) (v := ?_) (a' := ?_) #[true, false, true, false, false, false, false, false, false, false, false, false, false, false, false, false, false, false, false, false, false, false, false, false, false, false] rfl rfl (by kernel_rfl) (fun _ _ _ h => h) (Or.inl ⟨by rfl, ?_⟩) ?_ ?_
              rotate_left
              · intro w'
                go_simp
                with_reducible rfl
              rotate_left
              · simp only [Act.put, List.setIfInBounds_toArray, List.set_cons_zero, List.set_cons_succ, i64_w, i32_w]
                rfl
              refine pure_ (i := 3) (N := some 55) (v := ?_) (a' := ?_) #[true, false, true, true, false, false, false, false, false, false, false, false, false, false, false, false, false, false, false, false, false, false, false, false, false, false] rfl rfl (by kernel_rfl) (fun _ _ _ h => h) (Or.inl ⟨by rfl, ?_⟩) ?_ ?_
              rotate_left
              · intro w'
                go_simp
                with_reducible rfl
              rotate_left
              · simp only [Act.put, List.setIfInBounds_toArray, List.set_cons_zero, List.set_cons_succ, i64_w, i32_w]
                rfl
              refine pure_ (i := 5) (N := some 57) (v := ?_) (a' := ?_) #[true, false, true, true, false, true, false, false, false, false, false, false, false, false, false, false, false, false, false, false, false, false, false, false, false, false] rfl rfl (by kernel_rfl) (fun _ _ _ h => h) (Or.inl ⟨by rfl, ?_⟩) ?_ ?_
              rotate_left
              · intro w'
                go_simp
                with_reducible rfl
              rotate_left
              · simp only [Act.put, List.setIfInBounds_toArray, List.set_cons_zero, List.set_cons_succ, i64_w, i32_w]
                rfl
              refine pure_ (i := 6) (N := some 58) (v := ?_) (a' := ?_) #[true, false, true, true, false, true, true, false, false, false, false, false, false, false, false, false, false, false, false, false, false, false, false, false, false, false] rfl rfl (by kernel_rfl) (fun _ _ _ h => h) (Or.inl ⟨by rfl, ?_⟩) ?_ ?_
              rotate_left
              · intro w'
                go_simp
                with_reducible rfl
              rotate_left
              · simp only [Act.put, List.setIfInBounds_toArray, List.set_cons_zero, List.set_cons_succ, i64_w, i32_w]
                rfl
              refine pure_ (i := 8) (N := some 60) (v := ?_) (a' := ?_) #[true, false, true, true, false, true, true, false, true, false, false, false, false, false, false, false, false, false, false, false, false, false, false, false, false, false] rfl rfl (by kernel_rfl) (fun _ _ _ h => h) (Or.inl ⟨by rfl, ?_⟩) ?_ ?_
              rotate_left
              · intro w'
                go_simp
                with_reducible rfl
              rotate_left
              · simp only [Act.put, List.setIfInBounds_toArray, List.set_cons_zero, List.set_cons_succ, i64_w, i32_w]
                rfl
              refine pure_ (i := 13) (N := some 65) (v := ?_) (a' := ?_) #[true, false, true, true, false, true, true, false, true, false, false, false, false, true, false, false, false, false, false, false, false, false, false, false, false, false] rfl rfl (by kernel_rfl) (fun _ _ _ h => h) (Or.inl ⟨by rfl, ?_⟩) ?_ ?_
              rotate_left
              · intro w'
                go_simp
                with_reducible rfl
              rotate_left
              · simp only [Act.put, List.setIfInBounds_toArray, List.set_cons_zero, List.set_cons_succ, i64_w, i32_w]
                rfl
              refine pure_ (i := 15) (N := some 67) (v := ?_) (a' := ?_) #[true, false, true, true, false, true, true, false, true, false, false, false, false, true, false, true, false, false, false, false, false, false, false, false, false, false] rfl rfl (by kernel_rfl) (fun _ _ _ h => h) (Or.inl ⟨by rfl, ?_⟩) ?_ ?_
              rotate_left
              · intro w'
                go_simp
                with_reducible rfl
              rotate_left
              · simp only [Act.put, List.setIfInBounds_toArray, List.set_cons_zero, List.set_cons_succ, i64_w, i32_w]
                rfl
              refine take_ (i := 1) (N := some 53) (v := ?_) (a' := ?_) #[true, true, true, true, false, true, true, false, true, false, false, false, false, true, false, true, false, false, false, false, false, false, false, false, false, false] rfl rfl (by kernel_rfl) (fun _ _ _ h => h) (Or.inl ⟨by rfl, ?_⟩) hHeld ?_ ?_
              rotate_left
              · rintro w' ⟨s0, s1, s2⟩
                go_simp
                with_reducible rfl
              rotate_left
              · simp only [Act.put, List.setIfInBounds_toArray, List.set_cons_zero, List.set_cons_succ, i64_w, i32_w]
                rfl
              refine take_ (i := 4) (N := some 56) (v := ?_) (a' := ?_) #[true, true, true, true, true, true, true, false, true, false, false, false, false, true, false, true, false, false, false, false, false, false, false, false, false, false] rfl rfl (by kernel_rfl) (fun _ _ _ h => h) (Or.inl ⟨by rfl, ?_⟩) hHeld ?_ ?_
              rotate_left
              · rintro w' ⟨s0, s1, s2⟩
                go_simp
                with_reducible rfl
              rotate_left
              · simp only [Act.put, List.setIfInBounds_toArray, List.set_cons_zero, List.set_cons_succ, i64_w, i32_w]
                rfl
              refine take_ (i := 7) (N := some 59) (v := ?_) (a' := ?_) #[true, true, true, true, true, true, true, true, true, false, false, false, false, true, false, true, false, false, false, false, false, false, false, false, false, false] rfl rfl (by kernel_rfl) (fun _ _ _ h => h) (Or.inl ⟨by rfl, ?_⟩) hHeld ?_ ?_
              rotate_left
              · rintro w' ⟨s0, s1, s2⟩
                go_simp
                with_reducible rfl
              rotate_left
              · simp only [Act.put, List.setIfInBounds_toArray, List.set_cons_zero, List.set_cons_succ, i64_w, i32_w]
                rfl
              refine pure_ (i := 9) (N := some 61) (v := ?_) (a' := ?_) #[true, true, true, true, true, true, true, true, true, true, false, false, false, true, false, true, false, false, false, false, false, false, false, false, false, false] rfl rfl (by kernel_rfl) (fun _ _ _ h => h) (Or.inl ⟨by rfl, ?_⟩) ?_ ?_
              rotate_left
              · intro w'
                go_simp
                with_reducible rfl
              rotate_left
              · simp only [Act.put, List.setIfInBounds_toArray, List.set_cons_zero, List.set_cons_succ, i64_w, i32_w]
                rfl
              refine pure_ (i := 10) (N := some 62) (v := ?_) (a' := ?_) #[true, true, true, true, true, true, true, true, true, true, true, false, false, true, false, true, false, false, false, false, false, false, false, false, false, false] rfl rfl (by kernel_rfl) (fun _ _ _ h => h) (Or.inl ⟨by rfl, ?_⟩) ?_ ?_
              rotate_left
              · intro w'
                go_simp
                with_reducible rfl
              rotate_left
              · simp only [Act.put, List.setIfInBounds_toArray, List.set_cons_zero, List.set_cons_succ, i64_w, i32_w]
                rfl
              refine take_ (i := 14) (N := some 66) (v := ?_) (a' := ?_) #[true, true, true, true, true, true, true, true, true, true, true, false, false, true, true, true, false, false, false, false, false, false, false, false, false, false] rfl rfl (by kernel_rfl) (fun _ _ _ h => h) (Or.inl ⟨by rfl, ?_⟩) hHeld ?_ ?_
              rotate_left
              · rintro w' ⟨s0, s1, s2⟩
                go_simp
                with_reducible rfl
              rotate_left
              · simp only [Act.put, List.setIfInBounds_toArray, List.set_cons_zero, List.set_cons_succ, i64_w, i32_w]
                rfl
              refine pure_ (i := 16) (N := some 68) (v := ?_) (a' := ?_) #[true, true, true, true, true, true, true, true, true, true, true, false, false, true, true, true, true, false, false, false, false, false, false, false, false, false] rfl rfl (by kernel_rfl) (fun _ _ _ h => h) (Or.inl ⟨by rfl, ?_⟩) ?_ ?_
              rotate_left
              · intro w'
                go_simp
                with_reducible rfl
              rotate_left
              · simp only [Act.put, List.setIfInBounds_toArray, List.set_cons_zero, List.set_cons_succ, i64_w, i32_w]
                rfl
              refine pure_ (i := 17) (N := some 69) (v := ?_) (a' := ?_) #[true, true, true, true, true, true, true, true, true, true, true, false, false, true, true, true, true, true, false, false, false, false, false, false, false, false] rfl rfl (by kernel_rfl) (fun _ _ _ h => h) (Or.inl ⟨by rfl, ?_⟩) ?_ ?_
              rotate_left
              · intro w'
                go_simp
                with_reducible rfl
              rotate_left
              · simp only [Act.put, List.setIfInBounds_toArray, List.set_cons_zero, List.set_cons_succ, i64_w, i32_w]
                rfl
              refine take_ (i := 18) (N := some 70) (v := ?_) (a' := ?_) #[true, true, true, true, true, true, true, true, true, true, true, false, false, true, true, true, true, true, true, false, false, false, false, false, false, false] rfl rfl (by kernel_rfl) (fun _ _ _ h => h) (Or.inl ⟨by rfl, ?_⟩) hHeld ?_ ?_
              rotate_left
              · rintro w' ⟨s0, s1, s2⟩
                go_simp
                with_reducible rfl
              rotate_left
              · simp only [Act.put, List.setIfInBounds_toArray, List.set_cons_zero, List.set_cons_succ, i64_w, i32_w]
                rfl
              refine one_ (i := 11) (N := some 63) #[true, true, true, true, true, true, true, true, true, true, true, true, false, true, true, true, true, true, true, false, false, false, false, false, false, false] rfl rfl (by kernel_rfl) (by decide) (fun K hK => ?_)
              refine value_ (w1 := ?_) (v := ?_) (by rfl) rfl ?_ ?_
              rotate_left 2
              · go_simp
                constructor
                · rfl
                · rfl
              refine hK.out _ _ ⟨hHeld.1, hHeld.2.1, hHeld.2.2⟩ (fun hHeld => ?_)
              clear hK K
              refine norm_ (a' := ?_) ?_ ?_
              rotate_left
              · show Act.put _ (some 63) _ = _
                simp only [Act.put, List.setIfInBounds_toArray, List.set_cons_zero, List.set_cons_succ, i64_w, i32_w]
                rfl
              refine one_ (i := 12) (N := some 64) #[true, true, true, true, true, true, true, true, true, true, true, true, true, true, true, true, true, true, true, false, false, false, false, false, false, false] rfl rfl (by kernel_rfl) (by decide) (fun K hK => ?_)
              refine goes_ Try.func70 (by kernel_rfl) rfl #[.slice A6 ins.f6.length c6] (by rfl) rfl rfl (by simp only [List.map_toArray, List.map_cons, List.map_nil]; rfl) ?_
              with_reducible refine (Clone70.calls _ _ ins.f6 _ (Kd.C_below K6.out hHeld.2.2) L6.out HOI.out.1).mono ?_
              rintro e u5 ⟨v6, rfl, hR, hb⟩
              refine ⟨_, rfl, ?_⟩
              obtain ⟨B6v, d6, rfl, _, _⟩ := Kd.R_reads hR
              have HBa := Aside0.mk (show Below wj.heap.size wj u5 from ⟨hb.os, hb.tape, hb.output, hb.size, hb.block⟩)
              have HR6 := Aside0.mk hR
              clear hR
              refine hK.out _ _ ⟨((hb.cell (World.block_lt_of_cell? _ _ hHeld.1)).trans hHeld.1), ((hb.cell (World.block_lt_of_cell? _ _ hHeld.2.1)).trans hHeld.2.1), (below_then hHeld.2.2 hHeld.2.2.size hb)⟩ (fun hHeld => ?_)
              clear hK K
              refine norm_ (a' := ?_) ?_ ?_
              rotate_left
              · show Act.put _ (some 64) _ = _
                simp only [Act.put, List.setIfInBounds_toArray, List.set_cons_zero, List.set_cons_succ, i64_w, i32_w]
                rfl
              refine one_ (i := 19) (N := some 71) #[true, true, true, true, true, true, true, true, true, true, true, true, true, true, true, true, true, true, true, true, false, false, false, false, false, false] rfl rfl (by kernel_rfl) (by decide) (fun K hK => ?_)
              refine goes_ Try.func70 (by kernel_rfl) rfl #[.slice A7 ins.f7.length c7] (by rfl) rfl rfl (by simp only [List.map_toArray, List.map_cons, List.map_nil]; rfl) ?_
              with_reducible refine (Clone70.calls _ _ ins.f7 _ (Kd.C_below K7.out hHeld.2.2) L7.out HOI.out.2).mono ?_
              rintro e u7 ⟨v7, rfl, hR7, hb7⟩
              refine ⟨_, rfl, ?_⟩
              obtain ⟨B7v, d7, rfl, _, _⟩ := Kd.R_reads hR7
              have HR7 := Aside0.mk hR7
              have HBb := Aside0.mk hb7
              have HBc := Aside0.mk (below_then HBa.out HBa.out.size hb7)
              have f6' := (HBc.out.frozen (p := ⟨gC, j * 8 + 6, none⟩) HCW.out).trans f6
              have f7' := (HBc.out.frozen (p := ⟨gC, j * 8 + 7, none⟩) HCW.out).trans f7
              have x6' := (HBc.out.cell (World.block_lt_of_cell? _ _ x6)).trans x6
              have x7' := (HBc.out.cell (World.block_lt_of_cell? _ _ x7)).trans x7
              clear hR7
              refine hK.out _ _ ⟨((hb7.cell (World.block_lt_of_cell? _ _ hHeld.1)).trans hHeld.1), ((hb7.cell (World.block_lt_of_cell? _ _ hHeld.2.1)).trans hHeld.2.1), (below_then hHeld.2.2 hHeld.2.2.size hb7)⟩ (fun hHeld => ?_)
              clear hK K
              refine norm_ (a' := ?_) ?_ ?_
              rotate_left
              · show Act.put _ (some 71) _ = _
                simp only [Act.put, List.setIfInBounds_toArray, List.set_cons_zero, List.set_cons_succ, i64_w, i32_w]
                rfl
              refine pure_ (i := 20) (N := some 72) (v := ?_) (a' := ?_) #[true, true, true, true, true, true, true, true, true, true, true, true, true, true, true, true, true, true, true, true, true, false, false, false, false, false] rfl rfl (by kernel_rfl) (fun _ _ _ h => h) (Or.inl ⟨by rfl, ?_⟩) ?_ ?_
              rotate_left
              · intro w'
                go_simp
                with_reducible rfl
              rotate_left
              · simp only [Act.put, List.setIfInBounds_toArray, List.set_cons_zero, List.set_cons_succ, i64_w, i32_w]
                rfl
              refine pure_ (i := 21) (N := some 73) (v := ?_) (a' := ?_) #[true, true, true, true, true, true, true, true, true, true, true, true, true, true, true, true, true, true, true, true, true, true, false, false, false, false] rfl rfl (by kernel_rfl) (fun _ _ _ h => h) (Or.inl ⟨by rfl, ?_⟩) ?_ ?_
              rotate_left
              · intro w'
                go_simp
                with_reducible rfl
              rotate_left
              · simp only [Act.put, List.setIfInBounds_toArray, List.set_cons_zero, List.set_cons_succ, i64_w, i32_w]
                rfl
              refine one_ (i := 22) (N := none) #[true, true, true, true, true, true, true, true, true, true, true, true, true, true, true, true, true, true, true, true, true, true, true, false, false, false] rfl rfl (by kernel_rfl) (by decide) (fun K hK => ?_)
              refine skip_ (w1 := ?_) (by rfl) rfl ?_ ?_
              rotate_left
              · go_simp
                rfl
              refine hK.out _ _ ⟨(cell_far hHeld.1 (by have := HGC.out; simp only; omega)), (cell_off hHeld.2.1 (by omega)), (below_set hHeld.2.2 (by have := HGC.out; omega))⟩ (fun hHeld => ?_)
              clear hK K
              refine pure_ (i := 23) (N := some 74) (v := ?_) (a' := ?_) #[true, true, true, true, true, true, true, true, true, true, true, true, true, true, true, true, true, true, true, true, true, true, true, true, false, false] rfl rfl (by kernel_rfl) (fun _ _ _ h => h) (Or.inl ⟨by rfl, ?_⟩) ?_ ?_
              rotate_left
              · intro w'
                go_simp
                with_reducible rfl
              rotate_left
              · simp only [Act.put, List.setIfInBounds_toArray, List.set_cons_zero, List.set_cons_succ, i64_w, i32_w]
                rfl
              refine pure_ (i := 24) (N := some 75) (v := ?_) (a' := ?_) #[true, true, true, true, true, true, true, true, true, true, true, true, true, true, true, true, true, true, true, true, true, true, true, true, true, false] rfl rfl (by kernel_rfl) (fun _ _ _ h => h) (Or.inl ⟨by rfl, ?_⟩) ?_ ?_
              rotate_left
              · intro w'
                go_simp
                with_reducible rfl
              rotate_left
              · simp only [Act.put, List.setIfInBounds_toArray, List.set_cons_zero, List.set_cons_succ, i64_w, i32_w]
                rfl
              refine last_ (i := 25) (N := none) #[true, true, true, true, true, true, true, true, true, true, true, true, true, true, true, true, true, true, true, true, true, true, true, true, true, true] rfl rfl (by kernel_rfl) (by decide) (fun K hK => ?_)
              refine skip_ (w1 := ?_) (by rfl) rfl ?_ ?_
              rotate_left
              · go_simp
                rfl
              refine hK.out _ _ ?_
              clear hK K
              refine done_ (by kernel_rfl) ?_
              have r6 := Aside0.mk (Kd.R_lower (Kd.R_mono (Kd.R_below (Kd.R_bound HR6.out) HBb.out) (ok' := fun k => wj.heap.size ≤ k ∧ k < u5.heap.size) (fun k hk => ⟨hk.2.1, hk.2.2.1⟩)) HSj.out)
              have r7 := Aside0.mk (Kd.R_lower (Kd.R_mono (Kd.R_bound HR7.out) (ok' := fun k => u5.heap.size ≤ k) (fun k hk => hk.2.1)) (Nat.le_trans HSj.out HBa.out.size))
              rw [← HINS.out] at r6 r7
              have HST := Aside0.mk (HCI.out.step HLTj.out HBc.out HSj.out HBa.out.size r6.out r7.out)
              rw [HINS.out] at HST
              clear hHeld x6 x7 f6 f7 x6' x7' f6' f7' y0
              go_wp2
              go_roundw
              case measure => have := HLTj.out; simp [intOf]; omega
              case rel =>
                refine ⟨j + 1, HLTj.out, by go_num, ⟨?_⟩, ⟨.inl ⟨gC, _, rfl, HST.out⟩⟩, ⟨below_set (below_set (below_then HBj.out HBj.out.size HBc.out) (by have := HGC.out; omega)) (by have := HGC.out; omega)⟩, ⟨?_⟩⟩
                · exact blk_far (blk_far (blk_below BKc.out HBc.out) (by have := HGC.out; simp only; omega) _) (by have := HGC.out; simp only; omega) _
                · have e1 : ∀ (w : World) (p q : Nat) (u v : Value), ((w.setCell ⟨gC, p, none⟩ u).setCell ⟨gC, q, none⟩ v).heap.size = w.heap.size := fun w p q u v => (sets_size [v] q _).trans (sets_size [u] p w)
                  rw [e1]
                  exact Nat.le_trans HSj.out HBc.out.size
            · obtain rfl : j = bl.f0.length := by omega
              have hltjb : decide ((bl.f0.length : Int) < (bl.f0.length : Int)) = false := decide_eq_false (by omega)
              have x8 : wr.cell? ⟨wi.heap.size, 8, none⟩ = some (.slice As bl.f1.f7.length cs) := (blk_cell BKc.out 8).trans rfl
              have x9 : wr.cell? ⟨wi.heap.size, 9, none⟩ = some (.slice At bl.f1.f8.length ct) := (blk_cell BKc.out 9).trans rfl
              have HSC := Aside0.mk (Kd.S_bound (HCj.out.done (Nat.le_refl _)))
              have E8 := Aside0.mk (Kd.C_below (Kd.C_below GS.out HBwi.out) HBj.out)
              have E9 := Aside0.mk (Kd.C_below (Kd.C_below GT.out HBwi.out) HBj.out)
              clear y0 hltj
              go_wp2_with fail
              refine start_ (n := 14) (S := fun w' => w'.cell? ⟨wi.heap.size, 8, none⟩ = some (.slice As bl.f1.f7.length cs) ∧ w'.cell? ⟨wi.heap.size, 9, none⟩ = some (.slice At bl.f1.f8.length ct) ∧ Below wr.heap.size wr w') (ds := [10, 13]) #[false, false, false, false, false, false, false, false, false, false, false, false, false, false] (by kernel_rfl) rfl rfl ⟨x8, x9, (below_drew (Below.refl wr.heap.size wr))⟩ (fun hHeld => ?_)
              refine pure_ (i := 0) (N := some 77) (v := ?_) (a' := ?_) #[true, false, false, false, false, false, false, false, false, false, false, false, false, false] rfl rfl (by kernel_rfl) (fun _ _ _ h => h) (Or.inl ⟨by rfl, ?_⟩) ?_ ?_
              rotate_left
              · intro w'
                go_simp
                with_reducible rfl
              rotate_left
              · simp only [Act.put, List.setIfInBounds_toArray, List.set_cons_zero, List.set_cons_succ, i64_w, i32_w]
                rfl
              refine pure_ (i := 1) (N := some 78) (v := ?_) (a' := ?_) #[true, true, false, false, false, false, false, false, false, false, false, false, false, false] rfl rfl (by kernel_rfl) (fun _ _ _ h => h) (Or.inl ⟨by rfl, ?_⟩) ?_ ?_
              rotate_left
              · intro w'
                go_simp
                with_reducible rfl
              rotate_left
              · simp only [Act.put, List.setIfInBounds_toArray, List.set_cons_zero, List.set_cons_succ, i64_w, i32_w]
                rfl
              refine pure_ (i := 4) (N := some 81) (v := ?_) (a' := ?_) #[true, true, false, false, true, false, false, false, false, false, false, false, false, false] rfl rfl (by kernel_rfl) (fun _ _ _ h => h) (Or.inl ⟨by rfl, ?_⟩) ?_ ?_
              rotate_left
              · intro w'
                go_simp
                with_reducible rfl
              rotate_left
              · simp only [Act.put, List.setIfInBounds_toArray, List.set_cons_zero, List.set_cons_succ, i64_w, i32_w]
                rfl
              refine pure_ (i := 5) (N := some 82) (v := ?_) (a' := ?_) #[true, true, false, false, true, true, false, false, false, false, false, false, false, false] rfl rfl (by kernel_rfl) (fun _ _ _ h => h) (Or.inl ⟨by rfl, ?_⟩) ?_ ?_
              rotate_left
              · intro w'
                go_simp
                with_reducible rfl
              rotate_left
              · simp only [Act.put, List.setIfInBounds_toArray, List.set_cons_zero, List.set_cons_succ, i64_w, i32_w]
                rfl
              refine take_ (i := 2) (N := some 79) (v := ?_) (a' := ?_) #[true, true, true, false, true, true, false, false, false, false, false, false, false, false] rfl rfl (by kernel_rfl) (fun _ _ _ h => h) (Or.inl ⟨by rfl, ?_⟩) hHeld ?_ ?_
              rotate_left
              · rintro w' ⟨s0, s1, s2⟩
                go_simp
                with_reducible rfl
              rotate_left
              · simp only [Act.put, List.setIfInBounds_toArray, List.set_cons_zero, List.set_cons_succ, i64_w, i32_w]
                rfl
              refine take_ (i := 6) (N := some 83) (v := ?_) (a' := ?_) #[true, true, true, false, true, true, true, false, false, false, false, false, false, false] rfl rfl (by kernel_rfl) (fun _ _ _ h => h) (Or.inl ⟨by rfl, ?_⟩) hHeld ?_ ?_
              rotate_left
              · rintro w' ⟨s0, s1, s2⟩
                go_simp
                with_reducible rfl
              rotate_left
              · simp only [Act.put, List.setIfInBounds_toArray, List.set_cons_zero, List.set_cons_succ, i64_w, i32_w]
                rfl
              refine one_ (i := 3) (N := some 80) #[true, true, true, true, true, true, true, false, false, false, false, false, false, false] rfl rfl (by kernel_rfl) (by decide) (fun K hK => ?_)
              refine goes_ Try.func73 (by kernel_rfl) rfl #[.slice As bl.f1.f7.length cs] (by rfl) rfl rfl (by simp only [List.map_toArray, List.map_cons, List.map_nil]; rfl) ?_
              with_reducible refine (Clone73.calls _ _ bl.f1.f7 _ (Kd.C_below E8.out hHeld.2.2) LS.out HOB.out.2.2.1).mono ?_
              rintro e u5 ⟨v8, rfl, hR, hb⟩
              refine ⟨_, rfl, ?_⟩
              obtain ⟨B8v, d8, rfl, _, _⟩ := Kd.R_reads hR
              have HBa := Aside0.mk (show Below wr.heap.size wr u5 from ⟨hb.os, hb.tape, hb.output, hb.size, hb.block⟩)
              have HR8 := Aside0.mk hR
              clear hR
              refine hK.out _ _ ⟨((hb.cell (World.block_lt_of_cell? _ _ hHeld.1)).trans hHeld.1), ((hb.cell (World.block_lt_of_cell? _ _ hHeld.2.1)).trans hHeld.2.1), (below_then hHeld.2.2 hHeld.2.2.size hb)⟩ (fun hHeld => ?_)
              clear hK K
              refine norm_ (a' := ?_) ?_ ?_
              rotate_left
              · show Act.put _ (some 80) _ = _
                simp only [Act.put, List.setIfInBounds_toArray, List.set_cons_zero, List.set_cons_succ, i64_w, i32_w]
                rfl
              refine pure_ (i := 8) (N := some 85) (v := ?_) (a' := ?_) #[true, true, true, true, true, true, true, false, true, false, false, false, false, false] rfl rfl (by kernel_rfl) (fun _ _ _ h => h) (Or.inl ⟨by rfl, ?_⟩) ?_ ?_
              rotate_left
              · intro w'
                go_simp
                with_reducible rfl
              rotate_left
              · simp only [Act.put, List.setIfInBounds_toArray, List.set_cons_zero, List.set_cons_succ, i64_w, i32_w]
                rfl
              refine pure_ (i := 9) (N := some 86) (v := ?_) (a' := ?_) #[true, true, true, true, true, true, true, false, true, true, false, false, false, false] rfl rfl (by kernel_rfl) (fun _ _ _ h => h) (Or.inl ⟨by rfl, ?_⟩) ?_ ?_
              rotate_left
              · intro w'
                go_simp
                with_reducible rfl
              rotate_left
              · simp only [Act.put, List.setIfInBounds_toArray, List.set_cons_zero, List.set_cons_succ, i64_w, i32_w]
                rfl
              refine one_ (i := 7) (N := some 84) #[true, true, true, true, true, true, true, true, true, true, false, false, false, false] rfl rfl (by kernel_rfl) (by decide) (fun K hK => ?_)
              refine goes_ Try.func70 (by kernel_rfl) rfl #[.slice At bl.f1.f8.length ct] (by rfl) rfl rfl (by simp only [List.map_toArray, List.map_cons, List.map_nil]; rfl) ?_
              with_reducible refine (Clone70.calls _ _ bl.f1.f8 _ (Kd.C_below E9.out hHeld.2.2) LT.out HOB.out.2.2.2).mono ?_
              rintro e u7 ⟨v9, rfl, hR9, hb9⟩
              refine ⟨_, rfl, ?_⟩
              obtain ⟨B9v, d9, rfl, _, _⟩ := Kd.R_reads hR9
              have HR9 := Aside0.mk hR9
              have HBb := Aside0.mk hb9
              have HBc := Aside0.mk (below_then HBa.out HBa.out.size hb9)
              have BKd := Aside0.mk (blk_below BKc.out HBc.out)
              have f8' := blk_frozen BKd.out 8
              have f9' := blk_frozen BKd.out 9
              have x8' : u7.cell? ⟨wi.heap.size, 8, none⟩ = some (.slice As bl.f1.f7.length cs) := (blk_cell BKd.out 8).trans rfl
              have x9' : u7.cell? ⟨wi.heap.size, 9, none⟩ = some (.slice At bl.f1.f8.length ct) := (blk_cell BKd.out 9).trans rfl
              clear hR9
              refine hK.out _ _ ⟨((hb9.cell (World.block_lt_of_cell? _ _ hHeld.1)).trans hHeld.1), ((hb9.cell (World.block_lt_of_cell? _ _ hHeld.2.1)).trans hHeld.2.1), (below_then hHeld.2.2 hHeld.2.2.size hb9)⟩ (fun hHeld => ?_)
              clear hK K
              refine norm_ (a' := ?_) ?_ ?_
              rotate_left
              · show Act.put _ (some 84) _ = _
                simp only [Act.put, List.setIfInBounds_toArray, List.set_cons_zero, List.set_cons_succ, i64_w, i32_w]
                rfl
              refine last_ (i := 10) (N := none) #[true, true, true, true, true, true, true, true, true, true, true, false, false, false] rfl rfl (by kernel_rfl) (by decide) (fun K hK => ?_)
              refine skip_ (w1 := ?_) (by rfl) rfl ?_ ?_
              rotate_left
              · go_simp
                rfl
              refine hK.out _ _ ?_
              clear hK K
              refine pure_ (i := 11) (N := some 87) (v := ?_) (a' := ?_) #[true, true, true, true, true, true, true, true, true, true, true, true, false, false] rfl rfl (by kernel_rfl) (fun _ _ _ h => h) (Or.inl ⟨by rfl, ?_⟩) ?_ ?_
              rotate_left
              · intro w'
                go_simp
                with_reducible rfl
              rotate_left
              · simp only [Act.put, List.setIfInBounds_toArray, List.set_cons_zero, List.set_cons_succ, i64_w, i32_w]
                rfl
              refine pure_ (i := 12) (N := some 88) (v := ?_) (a' := ?_) #[true, true, true, true, true, true, true, true, true, true, true, true, true, false] rfl rfl (by kernel_rfl) (fun _ _ _ h => h) (Or.inl ⟨by rfl, ?_⟩) ?_ ?_
              rotate_left
              · intro w'
                go_simp
                with_reducible rfl
              rotate_left
              · simp only [Act.put, List.setIfInBounds_toArray, List.set_cons_zero, List.set_cons_succ, i64_w, i32_w]
                rfl
              refine last_ (i := 13) (N := none) #[true, true, true, true, true, true, true, true, true, true, true, true, true, true] rfl rfl (by kernel_rfl) (by decide) (fun K hK => ?_)
              refine skip_ (w1 := ?_) (by rfl) rfl ?_ ?_
              rotate_left
              · go_simp
                rfl
              refine hK.out _ _ ?_
              clear hK K
              refine done_ (by kernel_rfl) ?_
              have HSZr := Aside0.mk HBj.out.size
              have QB := Aside0.mk (blk_put (cs' := #[.slice AC bl.f0.length cC, .int .i64 bl.f1.f0, .int .i64 bl.f1.f1, .int .i64 bl.f1.f2, .int .i64 bl.f1.f3, .int .u32 bl.f1.f4, .int .i64 bl.f1.f5, .int .i64 bl.f1.f6, .slice B8v bl.f1.f7.length d8, .slice B9v bl.f1.f8.length d9]) (blk_put (cs' := #[.slice AC bl.f0.length cC, .int .i64 bl.f1.f0, .int .i64 bl.f1.f1, .int .i64 bl.f1.f2, .int .i64 bl.f1.f3, .int .u32 bl.f1.f4, .int .i64 bl.f1.f5, .int .i64 bl.f1.f6, .slice B8v bl.f1.f7.length d8, .slice At bl.f1.f8.length ct]) BKd.out 8 (.slice B8v bl.f1.f7.length d8) rfl) 9 (.slice B9v bl.f1.f8.length d9) rfl)
              have QC := Aside0.mk (Kd.S_far (p := ⟨wi.heap.size, 9, none⟩) (Kd.S_far (p := ⟨wi.heap.size, 8, none⟩) (Kd.S_mono (Kd.S_below HSC.out HBc.out) (ok' := fun k => U0.heap.size ≤ k ∧ k < wr.heap.size) (fun k hk => ⟨hk.2.1, hk.2.2.1⟩)) (fun k hk e => by have := HSU0.out; simp only at e; omega) (.slice B8v bl.f1.f7.length d8)) (fun k hk e => by have := HSU0.out; simp only at e; omega) (.slice B9v bl.f1.f8.length d9))
              have Q8 := Aside0.mk (Kd.R_far (p := ⟨wi.heap.size, 9, none⟩) (Kd.R_far (p := ⟨wi.heap.size, 8, none⟩) (Kd.R_mono (Kd.R_below (Kd.R_bound HR8.out) HBb.out) (ok' := fun k => wr.heap.size ≤ k ∧ k < u5.heap.size) (fun k hk => ⟨hk.2.1, hk.2.2.1⟩)) (fun k hk e => by have h1 := HSU0.out; have h2 := HSj.out; simp only at e; omega) (.slice B8v bl.f1.f7.length d8)) (fun k hk e => by have h1 := HSU0.out; have h2 := HSj.out; simp only at e; omega) (.slice B9v bl.f1.f8.length d9))
              have Q9 := Aside0.mk (Kd.R_far (p := ⟨wi.heap.size, 9, none⟩) (Kd.R_far (p := ⟨wi.heap.size, 8, none⟩) (Kd.R_mono (Kd.R_bound HR9.out) (ok' := fun k => u5.heap.size ≤ k) (fun k hk => hk.2.1)) (fun k hk e => by have h1 := HSU0.out; have h2 := HSj.out; have h3 := HBa.out.size; simp only at e; omega) (.slice B8v bl.f1.f7.length d8)) (fun k hk e => by have h1 := HSU0.out; have h2 := HSj.out; have h3 := HBa.out.size; simp only at e; omega) (.slice B9v bl.f1.f8.length d9))
              have QW := Aside0.mk (below_set (j := 9) (v := .slice B9v bl.f1.f8.length d9) (below_set (j := 8) (v := .slice B8v bl.f1.f7.length d8) (below_then HBj.out HBj.out.size HBc.out) (Nat.le_refl _)) (Nat.le_refl _))
              have HU5 := Aside0.mk HBa.out.size
              clear hHeld x8 x9 x8' x9' f8' f9' HR8 HR9 BKd HBb E8 E9 HBc HBa
              generalize (u7.setCell ⟨wi.heap.size, 8, none⟩ (.slice B8v bl.f1.f7.length d8)).setCell ⟨wi.heap.size, 9, none⟩ (.slice B9v bl.f1.f8.length d9) = U3 at QB QC Q8 Q9 QW ⊢
              have HM := Aside0.mk (s77_mk (w := U3) (base := w.heap.size) (ok := fun k => wi.heap.size ≤ k) (x := bl) (Kd.S_lower QC.out (Nat.le_trans HBwi.out.size HU0.out.size)) (Kd.R_lower Q8.out (Nat.le_trans HBwi.out.size HSZr.out)) (Kd.R_lower Q9.out (Nat.le_trans (Nat.le_trans HBwi.out.size HSZr.out) HU5.out))
                (fun k hk => by have := HSU0.out; omega) (fun k hk => by have := HSZr.out; omega) (fun k hk => by have := HSZr.out; have := HU5.out; omega) (fun k h1 h2 => by omega) (fun k h1 h2 => by have := HU5.out; omega) (fun k h1 h2 => by omega))
              have HLW2 := Aside0.mk (fun k (hk : vB.ownBlock = some k) => Kd.S_lt HSi.out k hk)
              have HBW2 := Aside0.mk (fun k (hk : vB.ownBlock = some k) => (Kd.S_R HSi.out).1 k hk)
              have HO := Aside0.mk (Kd.S_mono (Kd.S_below (Kd.S_bound HSi.out) QW.out) (ok' := fun k => V1.heap.size ≤ k ∧ ¬ (wi.heap.size ≤ k)) (fun k hk => ⟨hk.1, by have := hk.2.2.1; omega⟩))
              have HBT := Aside0.mk (below_then HBwi.out HBwi.out.size QW.out)
              have BK6 := Aside0.mk (blk_below BKi.out QW.out)
              have hne6 := Kd.S_ne HO.out BK6.out (by decide)
              have HZ3 := Aside0.mk QW.out.size
              have b0 : U3.cell? ⟨wi.heap.size, 0, none⟩ = some (.slice AC bl.f0.length cC) := (blk_cell QB.out 0).trans rfl
              have b1 : U3.cell? ⟨wi.heap.size, 1, none⟩ = some (.int .i64 bl.f1.f0) := (blk_cell QB.out 1).trans rfl
              have b2 : U3.cell? ⟨wi.heap.size, 2, none⟩ = some (.int .i64 bl.f1.f1) := (blk_cell QB.out 2).trans rfl
              have b3 : U3.cell? ⟨wi.heap.size, 3, none⟩ = some (.int .i64 bl.f1.f2) := (blk_cell QB.out 3).trans rfl
              have b4 : U3.cell? ⟨wi.heap.size, 4, none⟩ = some (.int .i64 bl.f1.f3) := (blk_cell QB.out 4).trans rfl
              have b5 : U3.cell? ⟨wi.heap.size, 5, none⟩ = some (.int .u32 bl.f1.f4) := (blk_cell QB.out 5).trans rfl
              have b6 : U3.cell? ⟨wi.heap.size, 6, none⟩ = some (.int .i64 bl.f1.f5) := (blk_cell QB.out 6).trans rfl
              have b7 : U3.cell? ⟨wi.heap.size, 7, none⟩ = some (.int .i64 bl.f1.f6) := (blk_cell QB.out 7).trans rfl
              have b8 : U3.cell? ⟨wi.heap.size, 8, none⟩ = some (.slice B8v bl.f1.f7.length d8) := (blk_cell QB.out 8).trans rfl
              have b9 : U3.cell? ⟨wi.heap.size, 9, none⟩ = some (.slice B9v bl.f1.f8.length d9) := (blk_cell QB.out 9).trans rfl
              have g3 : U3.cell? ⟨B6, 3, none⟩ = some vB := (blk_cell BK6.out 3).trans rfl
              go_wp2_with (first
                | (at_builtin; (refine Kd.S_append s77 (w0 := w) w.heap.size rfl _ _ 24 77 (.agg #[(.slice none 0 0), (.int .i64 0), (.int .i64 0), (.int .i64 0), (.int .i64 0), (.int .u32 0), (.int .i64 0), (.int .i64 0), (.slice none 0 0), (.slice none 0 0)]) 128 rfl Try.underlying24 infoS77 rfl (by decide) (by decide) vB (gr.f3.take p) bl [.slice AC bl.f0.length cC, .int .i64 bl.f1.f0, .int .i64 bl.f1.f1, .int .i64 bl.f1.f2, .int .i64 bl.f1.f3, .int .u32 bl.f1.f4, .int .i64 bl.f1.f5, .int .i64 bl.f1.f6, .slice B8v bl.f1.f7.length d8, .slice B9v bl.f1.f8.length d9] (fun k => V1.heap.size ≤ k) (fun k => wi.heap.size ≤ k) rfl rfl HM.out (fun k hk => ⟨Nat.le_trans HSZi.out hk, fun e => by have := HLW2.out k e.symm; omega⟩) (fun k hk => Nat.le_trans (Nat.le_trans HSZi.out HZ3.out) hk) HO.out HBT.out HBT.out.size (by rw [List.length_take]; have := HLTp.out; have := HG.out.2.2.1; omega) ?_); intro v1 w1 hS hB hG hat; obtain ⟨AN, nN, cN, rfl⟩ : ∃ A n c, v1 = Value.slice A n c := (by obtain ⟨A, c, h⟩ := Kd.S_slice hS; exact ⟨A, _, c, h⟩); have HS1 := Aside0.mk hS; have HG1 := Aside0.mk hG; have BK7 := Aside0.mk (blk_grown BK6.out hG hne6); clear hS hB hG hat; have k2 : w1.cell? ⟨B6, 3, none⟩ = some vB := (blk_cell BK7.out 3).trans rfl; have k2f := blk_frozen BK7.out 3; clear g3 b0 b1 b2 b3 b4 b5 b6 b7 b8 b9)
                | fail)
              go_roundw
              case measure => have := HLTp.out; simp [intOf]; omega
              case rel =>
                refine ⟨p + 1, .slice AN nN cN, HLTp.out, by go_num, ⟨blk_put (cs := #[.slice AP6 gr.f0.length cP6, .int .i64 gr.f1, .slice AA6 gr.f2.length cA6, vB]) BK7.out 3 _ rfl⟩, ⟨?_⟩, ⟨?_⟩, ⟨?_⟩, ⟨?_⟩⟩
                · have h9 := Kd.S_far (p := ⟨B6, 3, none⟩) HS1.out (fun k hk e => by subst e; have := blk_lt BKg.out; omega) (.slice AN nN cN)
                  rw [List.take_succ_eq_append_getElem HLTp.out, ← HQb.out]
                  exact h9
                · have hg : ∀ k, k < wo.heap.size → w1.heap[k]? = wo.heap[k]? := fun k hk => by
                    have h1 : k < wi.heap.size := Nat.lt_of_lt_of_le hk HBi.out.size
                    rw [HG1.out.block k (Nat.lt_of_lt_of_le h1 HZ3.out) (fun e => by have h2 := HBW2.out k e.symm; have h3 := HV1.out.size; omega), QW.out.block k h1, HBi.out.block k hk]
                  refine below_set (j := 3) (v := .slice AN nN cN) ?_ (by have := HGE6.out; omega)
                  exact ⟨HG1.out.os.trans (QW.out.os.trans HBi.out.os), HG1.out.tape.trans (QW.out.tape.trans HBi.out.tape), HG1.out.output.trans (QW.out.output.trans HBi.out.output), Nat.le_trans (Nat.le_trans HBi.out.size HZ3.out) HG1.out.size, hg⟩
                · intro k h1 h2
                  rw [Below.heap_setCell _ ⟨B6, 3, none⟩ _ k h2]
                  have hk1 : k < wi.heap.size := Nat.lt_of_lt_of_le h1 HSZi.out
                  rw [HG1.out.block k (Nat.lt_of_lt_of_le hk1 HZ3.out) (fun e => by have := HBW2.out k e.symm; omega), QW.out.block k hk1]
                  exact HKi.out k h1 h2
                · have e1 : (w1.setCell ⟨B6, 3, none⟩ (.slice AN nN cN)).heap.size = w1.heap.size := sets_size [.slice AN nN cN] 3 w1
                  rw [e1]
                  exact Nat.le_trans (Nat.le_trans HSZi.out HZ3.out) HG1.out.size
        · obtain rfl : p = gr.f3.length := by omega
          have hltc : decide ((gr.f3.length : Int) < (gr.f3.length : Int)) = false := decide_eq_false (by omega)
          replace HSi := Aside0.mk (show Kd.S s77 77 wr w.heap.size (fun k => V1.heap.size ≤ k) vB gr.f3 by have h9 := HSi.out; rwa [List.take_of_length_le (Nat.le_refl _)] at h9)
          obtain ⟨AB, cB, rfl, lB, _⟩ := Kd.S_reads HSi.out
          have hb3 := HBi.out.block B3 (by have := blk_lt BK.out; exact this)
          have BK3 := Aside0.mk (hb3.trans BK.out)
          have y2 : wr.cell? ⟨B3, 2, none⟩ = some vF := (blk_cell BK3.out 2).trans rfl
          have f2 := blk_frozen BK3.out 2
          have g0 : wr.cell? ⟨B6, 0, none⟩ = some (.slice AP6 gr.f0.length cP6) := (blk_cell BKi.out 0).trans rfl
          have g1 : wr.cell? ⟨B6, 1, none⟩ = some (.int .i64 gr.f1) := (blk_cell BKi.out 1).trans rfl
          have g2 : wr.cell? ⟨B6, 2, none⟩ = some (.slice AA6 gr.f2.length cA6) := (blk_cell BKi.out 2).trans rfl
          have g3 : wr.cell? ⟨B6, 3, none⟩ = some (.slice AB gr.f3.length cB) := (blk_cell BKi.out 3).trans rfl
          have HZB := Aside0.mk HBi.out.size
          have HLW := Aside0.mk (fun k (hk : vF.ownBlock = some k) => Kd.S_lt HS.out k hk)
          have HBW := Aside0.mk (fun k (hk : vF.ownBlock = some k) => (Kd.S_R HS.out).1 k hk)
          have HP8 := Aside0.mk (Kd.R_mono (Kd.R_move (w1 := wr) (Kd.R_bound HP7.out) (fun k hk => HKi.out k hk.2.2.1 hk.1.2)) (ok' := fun k => (W0.heap.size ≤ k ∧ k < V1.heap.size) ∧ ∃ cells, V1.heap[k]? = some (.cells cells 3 (0, 0))) (fun k hk => ⟨⟨hk.2.1, hk.2.2.1⟩, (by obtain ⟨_, _, _, qq, hqq, hc⟩ := hk; obtain rfl : qq = 3 := (by simpa [Kd.int, Kd.scalar] using hqq); exact hc)⟩))
          have HA8 := Aside0.mk (Kd.R_mono (Kd.R_move (w1 := wr) (Kd.R_bound HA7.out) (fun k hk => HKi.out k hk.2.2.1 hk.1.2)) (ok' := fun k => (W0.heap.size ≤ k ∧ k < V1.heap.size) ∧ ∃ cells, V1.heap[k]? = some (.cells cells 79 (0, 0))) (fun k hk => ⟨⟨hk.2.1, hk.2.2.1⟩, (by obtain ⟨_, _, _, qq, hqq, hc⟩ := hk; obtain rfl : qq = 79 := (by simpa [k79, Kd.iso, Kd.pair, Kd.int, Kd.scalar] using hqq); exact hc)⟩))
          have HW0 := Aside0.mk (show w.heap.size ≤ W0.heap.size from Nat.le_trans HB.out.size HV0.out.size)
          have HM := Aside0.mk (s26_mk (ok := fun k => wo.heap.size ≤ k) (Kd.R_lower HP8.out HW0.out) (Kd.R_lower HA8.out HW0.out) HSi.out (fun k hk => Nat.le_trans HV0.out.size hk.1.1) (fun k hk => Nat.le_trans HV0.out.size hk.1.1) (fun k hk => Nat.le_trans HV1.out.size hk)
            (fun k h1 h2 => by obtain ⟨c1, e1⟩ := h1.2; obtain ⟨c2, e2⟩ := h2.2; rw [e1] at e2; simp at e2) (fun k h1 h2 => by omega) (fun k h1 h2 => by omega))
          have HO := Aside0.mk (Kd.S_mono (Kd.S_below (Kd.S_bound HS.out) HBi.out) (ok' := fun k => W1.heap.size ≤ k ∧ ¬ (wo.heap.size ≤ k)) (fun k hk => ⟨hk.1, by have := hk.2.2.1; omega⟩))
          have HBT := Aside0.mk (below_then HB.out HB.out.size HBi.out)
          have hne3 := Kd.S_ne HO.out BK3.out (by decide)
          go_wp2_with (first
            | (at_builtin; (refine Kd.S_append s26 (w0 := w) w.heap.size rfl _ _ 48 26 (.agg #[(.slice none 0 0), (.int .i64 0), (.slice none 0 0), (.slice none 0 0)]) 80 rfl Try.underlying48 infoS26 rfl (by decide) (by decide) vF (l0_2.take q) gr [.slice AP6 gr.f0.length cP6, .int .i64 gr.f1, .slice AA6 gr.f2.length cA6, .slice AB gr.f3.length cB] (fun k => W1.heap.size ≤ k) (fun k => wo.heap.size ≤ k) rfl rfl HM.out (fun k hk => ⟨Nat.le_trans HSZ.out hk, fun e => by have := HLW.out k e.symm; omega⟩) (fun k hk => Nat.le_trans (Nat.le_trans HSZ.out HZB.out) hk) HO.out HBT.out HBT.out.size (by rw [List.length_take]; have := HLT.out; have := HOK.out.2.2.1; omega) ?_); intro v1 w1 hS hB hG hat; obtain ⟨AN, nN, cN, rfl⟩ : ∃ A n c, v1 = Value.slice A n c := (by obtain ⟨A, c, h⟩ := Kd.S_slice hS; exact ⟨A, _, c, h⟩); have HS1 := Aside0.mk hS; have HB1' := Aside0.mk hB; have HG1 := Aside0.mk hG; have BK4 := Aside0.mk (blk_grown BK3.out hG hne3); clear hS hB hG hat; have k2 : w1.cell? ⟨B3, 2, none⟩ = some vF := (blk_cell BK4.out 2).trans rfl; have k2f := blk_frozen BK4.out 2; clear y2 f2 g0 g1 g2 g3)
            | fail)
          go_roundw
          case measure => have := HLT.out; simp [intOf]; omega
          case rel =>
            refine ⟨q + 1, .slice AN nN cN, HLT.out, by go_num, ⟨blk_put (cs := #[.slice AP l0_0.length cP, .slice AA l0_1.length cA, vF, .int .i64 a0_3]) BK4.out 2 _ rfl⟩, ⟨?_⟩, ⟨below_set (j := 2) (v := .slice AN nN cN) HB1'.out (by have := HGE.out; omega)⟩, ⟨?_⟩, ⟨?_⟩⟩
            · have h9 := Kd.S_far (p := ⟨B3, 2, none⟩) HS1.out (fun k hk e => by subst e; have := blk_lt BKo.out; omega) (.slice AN nN cN)
              rw [List.take_succ_eq_append_getElem HLT.out, ← HQ.out]
              exact h9
            · intro k h1 h2
              rw [Below.heap_setCell _ ⟨B3, 2, none⟩ _ k h2]
              have hk1 : k < wo.heap.size := Nat.lt_of_lt_of_le h1 HSZ.out
              rw [HG1.out.block k (Nat.lt_of_lt_of_le hk1 HZB.out) (fun e => by have := HBW.out k e.symm; omega), HBi.out.block k hk1]
              exact HKW.out k h1 h2
            · have e1 : (w1.setCell ⟨B3, 2, none⟩ (.slice AN nN cN)).heap.size = w1.heap.size := sets_size [.slice AN nN cN] 2 w1
              rw [e1]
              exact Nat.le_trans (Nat.le_trans HSZ.out HZB.out) HG1.out.size
    · obtain rfl : q = l0_2.length := by omega
      have hltb : decide ((l0_2.length : Int) < (l0_2.length : Int)) = false := decide_eq_false (by omega)
      have y0 : wr.cell? ⟨B3, 0, none⟩ = some (.slice AP l0_0.length cP) := (blk_cell BK.out 0).trans rfl
      have y1 : wr.cell? ⟨B3, 1, none⟩ = some (.slice AA l0_1.length cA) := (blk_cell BK.out 1).trans rfl
      replace HS := Aside0.mk (show Kd.S s26 26 wr w.heap.size (fun k => W1.heap.size ≤ k) vF l0_2 by have h9 := HS.out; rwa [List.take_of_length_le (Nat.le_refl _)] at h9)
      obtain ⟨AF, cF, rfl, lF, _⟩ := Kd.S_reads HS.out
      have y2 : wr.cell? ⟨B3, 2, none⟩ = some (.slice AF l0_2.length cF) := (blk_cell BK.out 2).trans rfl
      have y3 : wr.cell? ⟨B3, 3, none⟩ = some (.int .i64 a0_3) := (blk_cell BK.out 3).trans rfl
      have BKr2 := Aside0.mk ((HKW.out (w.heap.size + 1) (blk_lt BKr1.out) (by have := HGE.out; omega)).trans BKr1.out)
      have r0 : wr.cell? ⟨w.heap.size + 1, 0, none⟩ = some (.slice none 0 0) := (blk_cell BKr2.out 0).trans rfl
      have r1 : wr.cell? ⟨w.heap.size + 1, 1, none⟩ = some (.slice none 0 0) := (blk_cell BKr2.out 1).trans rfl
      have r2 : wr.cell? ⟨w.heap.size + 1, 2, none⟩ = some (.slice none 0 0) := (blk_cell BKr2.out 2).trans rfl
      have r3 : wr.cell? ⟨w.heap.size + 1, 3, none⟩ = some (.int .i64 0) := (blk_cell BKr2.out 3).trans rfl
      have s0 := blk_frozen BKr2.out 0
      have s1 := blk_frozen BKr2.out 1
      have s2 := blk_frozen BKr2.out 2
      have s3 := blk_frozen BKr2.out 3
      go_wp2
      rw [show ((((wr.setCell ⟨w.heap.size + 1, 0, none⟩ (.slice AP l0_0.length cP)).setCell ⟨w.heap.size + 1, 1, none⟩ (.slice AA l0_1.length cA)).setCell ⟨w.heap.size + 1, 2, none⟩ (.slice AF l0_2.length cF)).setCell ⟨w.heap.size + 1, 3, none⟩ (.int .i64 a0_3)) = wr.setCells (w.heap.size + 1) 0 [.slice AP l0_0.length cP, .slice AA l0_1.length cA, .slice AF l0_2.length cF, .int .i64 a0_3] from rfl]
      have hlt1 := blk_lt BKr1.out
      have QK := Aside0.mk (sets_all (vs := [.slice AP l0_0.length cP, .slice AA l0_1.length cA, .slice AF l0_2.length cF, .int .i64 a0_3]) BKr2.out rfl)
      have hmv : ∀ k, k < W1.heap.size → k ≠ B3 → k ≠ w.heap.size + 1 → (wr.setCells (w.heap.size + 1) 0 [.slice AP l0_0.length cP, .slice AA l0_1.length cA, .slice AF l0_2.length cF, .int .i64 a0_3]).heap[k]? = W1.heap[k]? := fun k h1 h2 h3 => (setCells_far [.slice AP l0_0.length cP, .slice AA l0_1.length cA, .slice AF l0_2.length cF, .int .i64 a0_3] 0 k h3).trans (HKW.out k h1 h2)
      have QP := Aside0.mk (Kd.R_mono (Kd.R_move (Kd.R_bound (Kd.R_types HP1.out BKr1.out (by decide))) (fun k hk => hmv k hk.2.2.1 hk.1.1.2 hk.1.2)) (ok' := fun k => k < W1.heap.size) (fun k hk => hk.2.2.1))
      have QA := Aside0.mk (Kd.R_mono (Kd.R_move (Kd.R_bound (Kd.R_types HA1.out BKr1.out (by decide))) (fun k hk => hmv k hk.2.2.1 hk.1.1.2 hk.1.2)) (ok' := fun k => k < W1.heap.size) (fun k hk => hk.2.2.1))
      have QS := Aside0.mk (sets_S (g := w.heap.size + 1) HS.out (fun k hk e => by omega) [.slice AP l0_0.length cP, .slice AA l0_1.length cA, .slice AF l0_2.length cF, .int .i64 a0_3] 0)
      have QB := Aside0.mk (sets_below (w0 := w) (g := w.heap.size + 1) (by omega) [.slice AP l0_0.length cP, .slice AA l0_1.length cA, .slice AF l0_2.length cF, .int .i64 a0_3] 0 HB.out)
      clear hmv
      generalize wr.setCells (w.heap.size + 1) 0 [.slice AP l0_0.length cP, .slice AA l0_1.length cA, .slice AF l0_2.length cF, .int .i64 a0_3] = W2 at QK QP QA QS QB ⊢
      refine bodyPost_ret (results_cell_row rfl _ _ (w.heap.size + 1) 50 #[.slice AP l0_0.length cP, .slice AA l0_1.length cA, .slice AF l0_2.length cF, .int .i64 a0_3] (0, 0) _ rfl QK.out Try.underlying50 rfl (by kernel_rfl)) rfl ?_
      exact ⟨_, _, _, W1.heap.size, rfl, QP.out, QA.out, QS.out, QB.out⟩
end Go.Proofs.Ytocdebfbpfmnnaa.Pr
