/- place.turn: an end's blocks get other numbers. -/
import Derived.Test.YtocdebfbpfmnnaaXCopyA
import Derived.Deep.RegionWith
import Derived.BigRegion
namespace Go.Proofs.Ytocdebfbpfmnnaa.Pr
open Go.RowKit Go.Proofs.YtocdebfbpfmnnaaW.PrintWords Go.Proofs.YtocdebfbpfmnnaaW.PrintLast Go.Proofs.YtocdebfbpfmnnaaW.PrintMore
set_option linter.unusedVariables false
set_option linter.unusedSimpArgs false

/-- Only these blocks of memory are changed. -/
structure Touch (S : Nat → Prop) (w w' : World) : Prop where
  os : w'.os = w.os
  tape : w'.tape = w.tape
  output : w'.output = w.output
  size : w'.heap.size = w.heap.size
  block : ∀ k, ¬ S k → w'.heap[k]? = w.heap[k]?
theorem Touch.refl (S : Nat → Prop) (w : World) : Touch S w w := ⟨rfl, rfl, rfl, rfl, fun _ _ => rfl⟩
theorem Touch.set {S : Nat → Prop} {w w' : World} (h : Touch S w w') {p : Addr} (hp : S p.block) (v : Value) : Touch S w (w'.setCell p v) :=
  ⟨h.os, h.tape, h.output, (by simp [World.setCell]; exact h.size), fun k hk => (Below.heap_setCell w' p v k (fun e => hk (e ▸ hp))).trans (h.block k hk)⟩
theorem Touch.drew {S : Nat → Prop} {w w' : World} (h : Touch S w w') : Touch S w w'.drew := ⟨h.os, h.tape, h.output, h.size, h.block⟩
theorem Touch.below {S : Nat → Prop} {w0 w w' : World} (hb : Below w0.heap.size w0 w) (h : Touch S w w') (hS : ∀ k, S k → w0.heap.size ≤ k) : Below w0.heap.size w0 w' :=
  ⟨h.os.trans hb.os, h.tape.trans hb.tape, h.output.trans hb.output, h.size ▸ hb.size, fun k hk => (h.block k (fun hs => by have := hS k hs; omega)).trans (hb.block k hk)⟩

def atL (at_ : List Int) (i : Int) : Int := rd at_ i
def inL (n : Nat) (i : Int) : Prop := 0 ≤ i ∧ i < (n : Int)
def turnC (at_ : List Int) (c : S85) : S85 := ⟨c.f0, atL at_ c.f1⟩
def turnE (at_ : List Int) (x : S74) : S74 :=
  { x with
    f5 := if x.f0 = 1 ∨ x.f0 = 2 ∨ x.f0 = 3 ∨ x.f0 = 4 then atL at_ x.f5 else x.f5
    f6 := if x.f0 = 2 then atL at_ x.f6 else x.f6
    f7 := if x.f0 = 3 then x.f7.map (turnC at_) else x.f7
    f8 := if x.f0 = 4 then x.f8.map (atL at_) else x.f8 }
def okTurn (n : Nat) (x : S74) : Prop :=
  ((x.f0 = 1 ∨ x.f0 = 2 ∨ x.f0 = 3 ∨ x.f0 = 4) → inL n x.f5) ∧ (x.f0 = 2 → inL n x.f6) ∧ (x.f0 = 3 → ∀ c ∈ x.f7, inL n c.f1) ∧ (x.f0 = 4 → ∀ t ∈ x.f8, inL n t)

theorem set_idem {cs : Array Value} {i : Nat} {v : Value} (h : cs[i]? = some v) : cs.setIfInBounds i v = cs := by
  apply Array.ext_getElem?
  intro j
  by_cases hj : i = j
  · subst hj; rw [Array.getElem?_setIfInBounds_self_of_lt (Array.getElem?_eq_some_iff.1 h).1, h]
  · rw [Array.getElem?_setIfInBounds_ne hj]
theorem set_other {cs : Array Value} {i j : Nat} {v u : Value} (h : cs[j]? = some u) (hne : i ≠ j) : (cs.setIfInBounds i v)[j]? = some u := by
  rw [Array.getElem?_setIfInBounds_ne hne, h]

theorem case_cells {w : World} {base : Nat} {ok : Nat → Prop} {g n cap : Nat} {xs : List S85} (h : k85.R 85 w base ok (.slice (some ⟨g, 0, none⟩) n cap) xs) (q : Nat) (hq : q < n) :
    w.cell? ⟨g, q * 2, none⟩ = some (.int .u32 (xs.getD q z85).f0) ∧ w.cell? ⟨g, q * 2 + 1, none⟩ = some (.int .i64 (xs.getD q z85).f1) := by
  obtain ⟨c, _, hM, hc⟩ := Kd.R_get h z85 (q : Int) (by omega) (by omega)
  rw [Int.toNat_natCast] at hM hc
  have hcs := k85_openM hM
  subst hcs
  have h0 := hc 0 _ rfl
  have h1 := hc 1 _ rfl
  rw [add_plain] at h0 h1
  exact ⟨h0, h1⟩
theorem case_set {w : World} {base : Nat} {ok : Nat → Prop} {g n cap : Nat} {xs : List S85} (h : k85.R 85 w base ok (.slice (some ⟨g, 0, none⟩) n cap) xs) (q : Nat) (hq : q < n) (v : Int) :
    k85.R 85 (w.setCell ⟨g, q * 2 + 1, none⟩ (.int .i64 v)) base ok (.slice (some ⟨g, 0, none⟩) n cap) (xs.set q ⟨(xs.getD q z85).f0, v⟩) := by
  obtain ⟨h0, h1⟩ := case_cells h q hq
  have hs := Kd.R_seg h (q : Int) (by omega) (by omega) (c := [.int .u32 (xs.getD q z85).f0, .int .i64 (xs.getD q z85).f1]) (seg := [.int .i64 v]) (j := 1) rfl
    (fun j u hu => by
      match j with
      | 0 => simp at hu; subst hu; exact h0
      | 1 => simp at hu; subst hu; exact h1
      | j + 2 => simp at hu) (Nat.le_refl 2) (x' := ⟨(xs.getD q z85).f0, v⟩) (okp := fun _ => False) (k85_mkM _ _ _ _) (fun _ h => h.elim)
  exact hs.1
theorem int_cell {w : World} {base e : Nat} {ok : Nat → Prop} {g n cap : Nat} {xs : List Int} (h : (Kd.int .i64).R e w base ok (.slice (some ⟨g, 0, none⟩) n cap) xs) (q : Nat) (hq : q < n) :
    w.cell? ⟨g, q, none⟩ = some (.int .i64 (xs.getD q 0)) := by
  obtain ⟨u, h1, _, h2⟩ := row_one rfl h q hq 0
  have : [u] = [Value.int .i64 (xs.getD q 0)] := h2
  rw [h1, List.singleton_inj.1 this]
theorem row_frozen {α : Type} {d : Kd α} {w : World} {base e : Nat} {ok : Nat → Prop} {g n cap : Nat} {xs : List α} (h : d.R e w base ok (.slice (some ⟨g, 0, none⟩) n cap) xs) (q : Nat) : w.frozen? ⟨g, q, none⟩ = false := by
  obtain ⟨h0, inner, ho, hr⟩ := h
  rcases ho.2 with ⟨h', _⟩ | ⟨g', cap', cur, h', _, hh, _⟩
  · cases h'
  · have : g = g' := by injection h' with h'; injection h' with h'; injection h' with h'
    subst this
    simp [World.frozen?, hh]
theorem int_set {w : World} {base e : Nat} {ok : Nat → Prop} {g n cap : Nat} {xs : List Int} (h : (Kd.int .i64).R e w base ok (.slice (some ⟨g, 0, none⟩) n cap) xs) (q : Nat) (hq : q < n) (v : Int) :
    (Kd.int .i64).R e (w.setCell ⟨g, q, none⟩ (.int .i64 v)) base ok (.slice (some ⟨g, 0, none⟩) n cap) (xs.set q v) :=
  (row_set rfl h q hq (x' := v) (okp := fun _ => False) rfl (fun _ h => h.elim)).1
theorem map_part {α : Type} (f : α → α) (xs : List α) (z : α) (j : Nat) (hj : j < xs.length) :
    ((xs.take j).map f ++ xs.drop j).getD j z = xs[j] ∧ ((xs.take j).map f ++ xs.drop j).set j (f xs[j]) = (xs.take (j + 1)).map f ++ xs.drop (j + 1) := by
  have hl : ((xs.take j).map f).length = j := by simp; omega
  constructor
  · rw [List.getD_eq_getElem?_getD, List.getElem?_append_right (by omega), hl, Nat.sub_self, List.getElem?_drop, Nat.add_zero, List.getElem?_eq_getElem hj]; rfl
  · rw [List.set_append_right _ _ (by omega), hl, Nat.sub_self, List.drop_eq_getElem_cons hj, List.set_cons_zero, List.take_succ_eq_append_getElem hj, List.map_append, List.append_assoc]; rfl

set_option maxHeartbeats 1600000 in
set_option maxRecDepth 100000 in
theorem place_turn.calls (G o : Nat) (T : TypeId) (cs : Array Value) (x : S74) (v7 v8 : Value) (gA nA cA : Nat) (at_ : List Int) (base : Nat) (okA ok7 ok8 : Nat → Prop) (w : World)
    (hG : w.heap[G]? = some (.cells cs T (0, 0))) (e0 : cs[o]? = some (.int .i64 x.f0)) (e5 : cs[o + 5]? = some (.int .i64 x.f5)) (e6 : cs[o + 6]? = some (.int .i64 x.f6)) (e7 : cs[o + 7]? = some v7) (e8 : cs[o + 8]? = some v8)
    (h7 : k85.R 85 w base ok7 v7 x.f7) (h8 : (Kd.int .i64).R 3 w base ok8 v8 x.f8) (hA : (Kd.int .i64).R 3 w base okA (.slice (some ⟨gA, 0, none⟩) nA cA) at_)
    (d7 : ∀ k, ok7 k → k ≠ G) (d8 : ∀ k, ok8 k → k ≠ G) (dA : ∀ k, okA k → k ≠ G ∧ ¬ ok7 k ∧ ¬ ok8 k) (d78 : ∀ k, ok7 k → ¬ ok8 k) (hok : okTurn nA x) (b7 : x.f7.length < 2 ^ 62) (b8 : x.f8.length < 2 ^ 62) :
    Calls Try.prog 43 #[.pointer (some ⟨G, o, none⟩), .slice (some ⟨gA, 0, none⟩) nA cA] w fun e w' => e = .returned (.tuple #[]) ∧
      w'.heap[G]? = some (.cells ((cs.setIfInBounds (o + 6) (.int .i64 (turnE at_ x).f6)).setIfInBounds (o + 5) (.int .i64 (turnE at_ x).f5)) T (0, 0)) ∧
      k85.R 85 w' base ok7 v7 (turnE at_ x).f7 ∧ (Kd.int .i64).R 3 w' base ok8 v8 (turnE at_ x).f8 ∧ Touch (fun k => k = G ∨ ok7 k ∨ ok8 k) w w' := by
  have z0 : w.cell? ⟨G, o, none⟩ = some (.int .i64 x.f0) := (blk_cell hG o).trans e0
  have z5 : w.cell? ⟨G, o + 5, none⟩ = some (.int .i64 x.f5) := (blk_cell hG (o + 5)).trans e5
  have z6 : w.cell? ⟨G, o + 6, none⟩ = some (.int .i64 x.f6) := (blk_cell hG (o + 6)).trans e6
  have y5 := blk_frozen hG (o + 5)
  have y6 := blk_frozen hG (o + 6)
  have HG := Aside0.mk hG
  have E0 := Aside0.mk e0
  have E5 := Aside0.mk e5
  have E6 := Aside0.mk e6
  have E7 := Aside0.mk e7
  have E8 := Aside0.mk e8
  have H7 := Aside0.mk h7
  have H8 := Aside0.mk h8
  have HA := Aside0.mk hA
  have D7 := Aside0.mk d7
  have D8 := Aside0.mk d8
  have DA := Aside0.mk dA
  have D78 := Aside0.mk d78
  have HOK := Aside0.mk hok
  have HB7 := Aside0.mk b7
  have HB8 := Aside0.mk b8
  have HLA := Aside0.mk (row_len hA).1
  have HGA := Aside0.mk (show gA ≠ G from (dA gA (hA.1 gA rfl)).1)
  clear hG e0 e5 e6 e7 e8 h7 h8 hA d7 d8 dA d78 hok b7 b8
  by_cases k2 : x.f0 = 2
  · have K2 := Aside0.mk k2
    have c2 : (x.f0 == 2) = true := by simp [k2]
    obtain ⟨i5, j5⟩ := HOK.out.1 (.inr (.inl k2))
    obtain ⟨i6, j6⟩ := HOK.out.2.1 k2
    have r5 : w.cell? ⟨gA, x.f5.toNat, none⟩ = some (.int .i64 (atL at_ x.f5)) := int_cell HA.out x.f5.toNat (by omega)
    have r6 : w.cell? ⟨gA, x.f6.toNat, none⟩ = some (.int .i64 (atL at_ x.f6)) := int_cell HA.out x.f6.toNat (by omega)
    have r5' := cell_far (u := .int .i64 (atL at_ x.f6)) (q := ⟨G, o + 6, none⟩) r5 HGA.out
    clear k2 r5
    go_enter Try.func43, Try.ntmps43
    go_wp2
    go_end0
    refine ⟨rfl, ?_, ?_, ?_, ?_⟩
    · have e : turnE at_ x = { x with f5 := atL at_ x.f5, f6 := atL at_ x.f6 } := by simp [turnE, K2.out]
      rw [e]
      exact blk_put (blk_put HG.out (o + 6) _ rfl) (o + 5) _ rfl
    · have e : (turnE at_ x).f7 = x.f7 := by simp [turnE, K2.out]
      rw [e]
      exact Kd.R_far (Kd.R_far H7.out D7.out _) D7.out _
    · have e : (turnE at_ x).f8 = x.f8 := by simp [turnE, K2.out]
      rw [e]
      exact Kd.R_far (Kd.R_far H8.out D8.out _) D8.out _
    · exact ((Touch.refl _ w).set (.inl rfl) _).set (.inl rfl) _
  · have K2 := Aside0.mk k2
    have c2 : (x.f0 == 2) = false := by simp [k2]
    by_cases k1 : x.f0 = 1
    · have K1 := Aside0.mk k1
      have c1 : (x.f0 == 1) = true := by simp [k1]
      obtain ⟨i5, j5⟩ := HOK.out.1 (.inl k1)
      have r5 : w.cell? ⟨gA, x.f5.toNat, none⟩ = some (.int .i64 (atL at_ x.f5)) := int_cell HA.out x.f5.toNat (by omega)
      clear k1 k2
      go_enter Try.func43, Try.ntmps43
      go_wp2
      go_end0
      refine ⟨rfl, ?_, ?_, ?_, ?_⟩
      · have e : turnE at_ x = { x with f5 := atL at_ x.f5 } := by simp [turnE, K1.out]
        rw [e, show ({ x with f5 := atL at_ x.f5 } : S74).f6 = x.f6 from rfl, set_idem E6.out]
        exact blk_put HG.out (o + 5) _ rfl
      · have e : (turnE at_ x).f7 = x.f7 := by simp [turnE, K1.out]
        rw [e]
        exact Kd.R_far H7.out D7.out _
      · have e : (turnE at_ x).f8 = x.f8 := by simp [turnE, K1.out]
        rw [e]
        exact Kd.R_far H8.out D8.out _
      · exact (Touch.refl _ w).set (.inl rfl) _
    · have K1 := Aside0.mk k1
      have c1 : (x.f0 == 1) = false := by simp [k1]
      by_cases k34 : x.f0 = 3 ∨ x.f0 = 4
      · have K34 := Aside0.mk k34
        obtain ⟨i5, j5⟩ := HOK.out.1 (.inr (.inr k34))
        have r5 : w.cell? ⟨gA, x.f5.toNat, none⟩ = some (.int .i64 (atL at_ x.f5)) := int_cell HA.out x.f5.toNat (by omega)
        obtain ⟨A7, n7, c7, rfl⟩ : ∃ A n c, v7 = Value.slice A n c := (by obtain ⟨A, c, h, _⟩ := Kd.R_reads H7.out; exact ⟨A, _, c, h⟩)
        obtain ⟨A8, n8, c8, rfl⟩ : ∃ A n c, v8 = Value.slice A n c := (by obtain ⟨A, c, h, _⟩ := Kd.R_reads H8.out; exact ⟨A, _, c, h⟩)
        obtain rfl : n7 = x.f7.length := (Kd.R_reads' H7.out).1
        obtain rfl : n8 = x.f8.length := (Kd.R_reads' H8.out).1
        have z7 : w.cell? ⟨G, o + 7, none⟩ = some (.slice A7 x.f7.length c7) := (blk_cell HG.out (o + 7)).trans E7.out
        have z8 : w.cell? ⟨G, o + 8, none⟩ = some (.slice A8 x.f8.length c8) := (blk_cell HG.out (o + 8)).trans E8.out
        have hd : ((x.f0 == 3) = true ∧ (x.f0 == 4) = false ∧ x.f0 = 3) ∨ ((x.f0 == 3) = false ∧ (x.f0 == 4) = true ∧ x.f0 = 4) := by
          rcases k34 with h | h
          · exact .inl ⟨by simp [h], by simp [h], h⟩
          · exact .inr ⟨by simp [h], by simp [h], h⟩
        clear k1 k2 k34
        go_enter Try.func43, Try.ntmps43
        rcases hd with ⟨c3, c4, k3⟩ | ⟨c3, c4, k4⟩
        · have KK := Aside0.mk k3
          clear k3
          go_wp2
          have BK1 := Aside0.mk (blk_set HG.out (o + 5) (.int .i64 (atL at_ x.f5)))
          have R71 := Aside0.mk (Kd.R_far (p := ⟨G, o + 5, none⟩) H7.out D7.out (.int .i64 (atL at_ x.f5)))
          have R81 := Aside0.mk (Kd.R_far (p := ⟨G, o + 5, none⟩) H8.out D8.out (.int .i64 (atL at_ x.f5)))
          have RA1 := Aside0.mk (Kd.R_far (p := ⟨G, o + 5, none⟩) HA.out (fun k hk => (DA.out k hk).1) (.int .i64 (atL at_ x.f5)))
          have HT1 := Aside0.mk ((Touch.refl (fun k => k = G ∨ ok7 k ∨ ok8 k) w).set (p := ⟨G, o + 5, none⟩) (.inl rfl) (.int .i64 (atL at_ x.f5)))
          clear z0 z5 z6 z7 z8 y5 y6 r5 H7 H8 HA HG
          generalize w.setCell ⟨G, o + 5, none⟩ (.int .i64 (atL at_ x.f5)) = w1 at BK1 R71 R81 RA1 HT1 ⊢
          go_loopw [4, 52] (fun v4 v52 wr => ∃ j : Nat, j ≤ x.f7.length ∧ v52 = .int .i64 (j : Int) ∧ Aside0 (wr.heap[G]? = some (.cells (cs.setIfInBounds (o + 5) (.int .i64 (atL at_ x.f5))) T (0, 0))) ∧ Aside0 (k85.R 85 wr base ok7 (.slice A7 x.f7.length c7) ((x.f7.take j).map (turnC at_) ++ x.f7.drop j)) ∧ Aside0 ((Kd.int .i64).R 3 wr base ok8 (.slice A8 x.f8.length c8) (x.f8)) ∧ Aside0 ((Kd.int .i64).R 3 wr base okA (.slice (some ⟨gA, 0, none⟩) nA cA) at_) ∧ Aside0 (Touch (fun k => k = G ∨ ok7 k ∨ ok8 k) w wr)) (fun v4 v52 _ => x.f7.length - (intOf v52).toNat)
          case atStart => exact ⟨0, Nat.zero_le _, rfl, BK1, ⟨by simpa using R71.out⟩, R81, RA1, HT1⟩
          case round =>
            clear BK1 R71 R81 RA1 HT1
            obtain ⟨j, hj, rfl, BK1, R71, R81, RA1, HT1⟩ := hrel
            have z0 : wr.cell? ⟨G, o, none⟩ = some (.int .i64 x.f0) := (blk_cell BK1.out o).trans (set_other E0.out (by omega))
            have z7 : wr.cell? ⟨G, o + 7, none⟩ = some (.slice A7 x.f7.length c7) := (blk_cell BK1.out (o + 7)).trans (set_other E7.out (by omega))
            have hj2 : (j : Int) + 1 ≤ 9223372036854775807 := by have := HB7.out; omega
            by_cases hlt : j < x.f7.length
            · have HLT := Aside0.mk hlt
              have hltb : decide ((j : Int) < (x.f7.length : Int)) = true := decide_eq_true (by omega)
              have hlti : (j : Int) < (x.f7.length : Int) := by omega
              obtain ⟨g7, cap, hv, _⟩ := Kd.R_form R71.out (by simp; omega)
              obtain ⟨rfl, rfl⟩ : A7 = some ⟨g7, 0, none⟩ ∧ c7 = cap := by injection hv with h1 h2 h3; exact ⟨h1, h3⟩
              clear hv
              have HGK := Aside0.mk (show ok7 g7 from R71.out.1 g7 rfl)
              have HMP := Aside0.mk (map_part (turnC at_) x.f7 z85 j HLT.out)
              have q1 := (case_cells R71.out j HLT.out).2
              rw [HMP.out.1] at q1
              have qf := row_frozen R71.out (j * 2 + 1)
              obtain ⟨hi0, hi1⟩ := HOK.out.2.2.1 KK.out (x.f7[j]'HLT.out) (List.getElem_mem HLT.out)
              have ra : wr.cell? ⟨gA, (x.f7[j]'HLT.out).f1.toNat, none⟩ = some (.int .i64 (atL at_ (x.f7[j]'HLT.out).f1)) := int_cell RA1.out (x.f7[j]'HLT.out).f1.toNat (by omega)
              generalize hIX : x.f7[j]'HLT.out = ix at q1 hi0 hi1 ra
              have HIX := Aside0.mk hIX
              clear hIX hlt
              go_wp2
              go_region
              go_wp2
              go_roundw
              case measure => have := HLT.out; simp [intOf]; omega
              case rel => exact ⟨j + 1, HLT.out, by go_num, ⟨blk_drew (blk_far BK1.out (fun e => D7.out _ HGK.out e.symm) _)⟩, ⟨by have h := case_set R71.out j HLT.out (atL at_ ix.f1); rw [HMP.out.1, HIX.out, show (⟨ix.f0, atL at_ ix.f1⟩ : S85) = turnC at_ ix from rfl, ← HIX.out, HMP.out.2, HIX.out] at h; exact Kd.R_drew h⟩, ⟨Kd.R_drew (Kd.R_far R81.out (fun k hk e => D78.out k (e ▸ HGK.out) hk) _)⟩, ⟨Kd.R_drew (Kd.R_far RA1.out (fun k hk e => (DA.out k hk).2.1 (e ▸ HGK.out)) _)⟩, ⟨(HT1.out.set (p := ⟨g7, j * 2 + 1, none⟩) (.inr (.inl HGK.out)) _).drew⟩⟩
            · obtain rfl : j = x.f7.length := by omega
              have hltb : decide ((x.f7.length : Int) < (x.f7.length : Int)) = false := decide_eq_false (by omega)
              clear hlt
              replace R71 := Aside0.mk (show k85.R 85 wr base ok7 (.slice A7 x.f7.length c7) (x.f7.map (turnC at_)) by have h := R71.out; rwa [List.take_of_length_le (Nat.le_refl _), List.drop_of_length_le (Nat.le_refl _), List.append_nil] at h)
              clear z0 z7
              have z8 : wr.cell? ⟨G, o + 8, none⟩ = some (.slice A8 x.f8.length c8) := (blk_cell BK1.out (o + 8)).trans (set_other E8.out (by omega))
              go_wp2
              clear z8
              go_loopw [5, 84] (fun v5 v84 wr => ∃ j : Nat, j ≤ x.f8.length ∧ v84 = .int .i64 (j : Int) ∧ Aside0 (wr.heap[G]? = some (.cells (cs.setIfInBounds (o + 5) (.int .i64 (atL at_ x.f5))) T (0, 0))) ∧ Aside0 (k85.R 85 wr base ok7 (.slice A7 x.f7.length c7) (x.f7.map (turnC at_))) ∧ Aside0 ((Kd.int .i64).R 3 wr base ok8 (.slice A8 x.f8.length c8) (x.f8)) ∧ Aside0 ((Kd.int .i64).R 3 wr base okA (.slice (some ⟨gA, 0, none⟩) nA cA) at_) ∧ Aside0 (Touch (fun k => k = G ∨ ok7 k ∨ ok8 k) w wr)) (fun v5 v84 _ => x.f8.length - (intOf v84).toNat)
              case atStart => exact ⟨0, Nat.zero_le _, rfl, BK1, R71, R81, RA1, HT1⟩
              case round =>
                clear BK1 R71 R81 RA1 HT1
                obtain ⟨j, hj, rfl, BK1, R71, R81, RA1, HT1⟩ := hrel
                have z0 : wr.cell? ⟨G, o, none⟩ = some (.int .i64 x.f0) := (blk_cell BK1.out o).trans (set_other E0.out (by omega))
                have z8 : wr.cell? ⟨G, o + 8, none⟩ = some (.slice A8 x.f8.length c8) := (blk_cell BK1.out (o + 8)).trans (set_other E8.out (by omega))
                have hj2 : (j : Int) + 1 ≤ 9223372036854775807 := by have := HB8.out; omega
                by_cases hlt : j < x.f8.length
                · have HLT := Aside0.mk hlt
                  have hltb : decide ((j : Int) < (x.f8.length : Int)) = true := decide_eq_true (by omega)
                  have hlti : (j : Int) < (x.f8.length : Int) := by omega
                  clear hlt
                  go_wp2
                  go_roundw
                  case measure => have := HLT.out; simp [intOf]; omega
                  case rel => exact ⟨j + 1, HLT.out, by go_num, BK1, R71, R81, RA1, HT1⟩
                · obtain rfl : j = x.f8.length := by omega
                  have hltb : decide ((x.f8.length : Int) < (x.f8.length : Int)) = false := decide_eq_false (by omega)
                  clear hlt
                  clear z0 z8
                  go_wp2
                  go_end0
                  have e : turnE at_ x = { x with f5 := atL at_ x.f5, f7 := x.f7.map (turnC at_) } := by simp [turnE, KK.out]
                  rw [e, show ({ x with f5 := atL at_ x.f5, f7 := x.f7.map (turnC at_) } : S74).f6 = x.f6 from rfl, set_idem E6.out]
                  exact ⟨rfl, BK1.out, R71.out, R81.out, HT1.out⟩
        · have KK := Aside0.mk k4
          clear k4
          go_wp2
          have BK1 := Aside0.mk (blk_set HG.out (o + 5) (.int .i64 (atL at_ x.f5)))
          have R71 := Aside0.mk (Kd.R_far (p := ⟨G, o + 5, none⟩) H7.out D7.out (.int .i64 (atL at_ x.f5)))
          have R81 := Aside0.mk (Kd.R_far (p := ⟨G, o + 5, none⟩) H8.out D8.out (.int .i64 (atL at_ x.f5)))
          have RA1 := Aside0.mk (Kd.R_far (p := ⟨G, o + 5, none⟩) HA.out (fun k hk => (DA.out k hk).1) (.int .i64 (atL at_ x.f5)))
          have HT1 := Aside0.mk ((Touch.refl (fun k => k = G ∨ ok7 k ∨ ok8 k) w).set (p := ⟨G, o + 5, none⟩) (.inl rfl) (.int .i64 (atL at_ x.f5)))
          clear z0 z5 z6 z7 z8 y5 y6 r5 H7 H8 HA HG
          generalize w.setCell ⟨G, o + 5, none⟩ (.int .i64 (atL at_ x.f5)) = w1 at BK1 R71 R81 RA1 HT1 ⊢
          go_loopw [4, 52] (fun v4 v52 wr => ∃ j : Nat, j ≤ x.f7.length ∧ v52 = .int .i64 (j : Int) ∧ Aside0 (wr.heap[G]? = some (.cells (cs.setIfInBounds (o + 5) (.int .i64 (atL at_ x.f5))) T (0, 0))) ∧ Aside0 (k85.R 85 wr base ok7 (.slice A7 x.f7.length c7) (x.f7)) ∧ Aside0 ((Kd.int .i64).R 3 wr base ok8 (.slice A8 x.f8.length c8) (x.f8)) ∧ Aside0 ((Kd.int .i64).R 3 wr base okA (.slice (some ⟨gA, 0, none⟩) nA cA) at_) ∧ Aside0 (Touch (fun k => k = G ∨ ok7 k ∨ ok8 k) w wr)) (fun v4 v52 _ => x.f7.length - (intOf v52).toNat)
          case atStart => exact ⟨0, Nat.zero_le _, rfl, BK1, R71, R81, RA1, HT1⟩
          case round =>
            clear BK1 R71 R81 RA1 HT1
            obtain ⟨j, hj, rfl, BK1, R71, R81, RA1, HT1⟩ := hrel
            have z0 : wr.cell? ⟨G, o, none⟩ = some (.int .i64 x.f0) := (blk_cell BK1.out o).trans (set_other E0.out (by omega))
            have z7 : wr.cell? ⟨G, o + 7, none⟩ = some (.slice A7 x.f7.length c7) := (blk_cell BK1.out (o + 7)).trans (set_other E7.out (by omega))
            have hj2 : (j : Int) + 1 ≤ 9223372036854775807 := by have := HB7.out; omega
            by_cases hlt : j < x.f7.length
            · have HLT := Aside0.mk hlt
              have hltb : decide ((j : Int) < (x.f7.length : Int)) = true := decide_eq_true (by omega)
              have hlti : (j : Int) < (x.f7.length : Int) := by omega
              clear hlt
              go_wp2
              go_roundw
              case measure => have := HLT.out; simp [intOf]; omega
              case rel => exact ⟨j + 1, HLT.out, by go_num, BK1, R71, R81, RA1, HT1⟩
            · obtain rfl : j = x.f7.length := by omega
              have hltb : decide ((x.f7.length : Int) < (x.f7.length : Int)) = false := decide_eq_false (by omega)
              clear hlt
              clear z0 z7
              have z8 : wr.cell? ⟨G, o + 8, none⟩ = some (.slice A8 x.f8.length c8) := (blk_cell BK1.out (o + 8)).trans (set_other E8.out (by omega))
              go_wp2
              clear z8
              go_loopw [5, 84] (fun v5 v84 wr => ∃ j : Nat, j ≤ x.f8.length ∧ v84 = .int .i64 (j : Int) ∧ Aside0 (wr.heap[G]? = some (.cells (cs.setIfInBounds (o + 5) (.int .i64 (atL at_ x.f5))) T (0, 0))) ∧ Aside0 (k85.R 85 wr base ok7 (.slice A7 x.f7.length c7) (x.f7)) ∧ Aside0 ((Kd.int .i64).R 3 wr base ok8 (.slice A8 x.f8.length c8) ((x.f8.take j).map (atL at_) ++ x.f8.drop j)) ∧ Aside0 ((Kd.int .i64).R 3 wr base okA (.slice (some ⟨gA, 0, none⟩) nA cA) at_) ∧ Aside0 (Touch (fun k => k = G ∨ ok7 k ∨ ok8 k) w wr)) (fun v5 v84 _ => x.f8.length - (intOf v84).toNat)
              case atStart => exact ⟨0, Nat.zero_le _, rfl, BK1, R71, ⟨by simpa using R81.out⟩, RA1, HT1⟩
              case round =>
                clear BK1 R71 R81 RA1 HT1
                obtain ⟨j, hj, rfl, BK1, R71, R81, RA1, HT1⟩ := hrel
                have z0 : wr.cell? ⟨G, o, none⟩ = some (.int .i64 x.f0) := (blk_cell BK1.out o).trans (set_other E0.out (by omega))
                have z8 : wr.cell? ⟨G, o + 8, none⟩ = some (.slice A8 x.f8.length c8) := (blk_cell BK1.out (o + 8)).trans (set_other E8.out (by omega))
                have hj2 : (j : Int) + 1 ≤ 9223372036854775807 := by have := HB8.out; omega
                by_cases hlt : j < x.f8.length
                · have HLT := Aside0.mk hlt
                  have hltb : decide ((j : Int) < (x.f8.length : Int)) = true := decide_eq_true (by omega)
                  have hlti : (j : Int) < (x.f8.length : Int) := by omega
                  obtain ⟨g8, cap, hv, _⟩ := Kd.R_form R81.out (by simp; omega)
                  obtain ⟨rfl, rfl⟩ : A8 = some ⟨g8, 0, none⟩ ∧ c8 = cap := by injection hv with h1 h2 h3; exact ⟨h1, h3⟩
                  clear hv
                  have HGK := Aside0.mk (show ok8 g8 from R81.out.1 g8 rfl)
                  have HMP := Aside0.mk (map_part (atL at_) x.f8 0 j HLT.out)
                  have q1 := int_cell R81.out j HLT.out
                  rw [HMP.out.1] at q1
                  have qf := row_frozen R81.out j
                  obtain ⟨hi0, hi1⟩ := HOK.out.2.2.2 KK.out (x.f8[j]'HLT.out) (List.getElem_mem HLT.out)
                  have ra : wr.cell? ⟨gA, (x.f8[j]'HLT.out).toNat, none⟩ = some (.int .i64 (atL at_ (x.f8[j]'HLT.out))) := int_cell RA1.out (x.f8[j]'HLT.out).toNat (by omega)
                  generalize hIX : x.f8[j]'HLT.out = ix at q1 hi0 hi1 ra
                  have HIX := Aside0.mk hIX
                  clear hIX hlt
                  go_wp2
                  go_region
                  go_wp2
                  go_roundw
                  case measure => have := HLT.out; simp [intOf]; omega
                  case rel => exact ⟨j + 1, HLT.out, by go_num, ⟨blk_drew (blk_far BK1.out (fun e => D8.out _ HGK.out e.symm) _)⟩, ⟨Kd.R_drew (Kd.R_far R71.out (fun k hk e => D78.out k hk (e ▸ HGK.out)) _)⟩, ⟨by have h := int_set R81.out j HLT.out (atL at_ ix); rw [← HIX.out, HMP.out.2, HIX.out] at h; exact Kd.R_drew h⟩, ⟨Kd.R_drew (Kd.R_far RA1.out (fun k hk e => (DA.out k hk).2.2 (e ▸ HGK.out)) _)⟩, ⟨(HT1.out.set (p := ⟨g8, j, none⟩) (.inr (.inr HGK.out)) _).drew⟩⟩
                · obtain rfl : j = x.f8.length := by omega
                  have hltb : decide ((x.f8.length : Int) < (x.f8.length : Int)) = false := decide_eq_false (by omega)
                  clear hlt
                  replace R81 := Aside0.mk (show (Kd.int .i64).R 3 wr base ok8 (.slice A8 x.f8.length c8) (x.f8.map (atL at_)) by have h := R81.out; rwa [List.take_of_length_le (Nat.le_refl _), List.drop_of_length_le (Nat.le_refl _), List.append_nil] at h)
                  clear z0 z8
                  go_wp2
                  go_end0
                  have e : turnE at_ x = { x with f5 := atL at_ x.f5, f8 := x.f8.map (atL at_) } := by simp [turnE, KK.out]
                  rw [e, show ({ x with f5 := atL at_ x.f5, f8 := x.f8.map (atL at_) } : S74).f6 = x.f6 from rfl, set_idem E6.out]
                  exact ⟨rfl, BK1.out, R71.out, R81.out, HT1.out⟩
      · have K3 := Aside0.mk (show ¬ x.f0 = 3 from fun h => k34 (.inl h))
        have K4 := Aside0.mk (show ¬ x.f0 = 4 from fun h => k34 (.inr h))
        have c3 : (x.f0 == 3) = false := by simp [K3.out]
        have c4 : (x.f0 == 4) = false := by simp [K4.out]
        clear k1 k2 k34
        go_enter Try.func43, Try.ntmps43
        go_wp2
        go_end0
        have e : turnE at_ x = x := by simp [turnE, K1.out, K2.out, K3.out, K4.out]
        rw [e, set_idem E6.out, set_idem E5.out]
        exact ⟨rfl, HG.out, H7.out, H8.out, Touch.refl _ _⟩
end Go.Proofs.Ytocdebfbpfmnnaa.Pr
namespace Go.Proofs.Ytocdebfbpfmnnaa.Pr
open Go.RowKit Go.Proofs.YtocdebfbpfmnnaaW.PrintWords Go.Proofs.YtocdebfbpfmnnaaW.PrintLast Go.Proofs.YtocdebfbpfmnnaaW.PrintMore
set_option linter.unusedVariables false

def badAt (at_ : List Int) (b : Int) : Prop := b < 0 ∨ (at_.length : Int) ≤ b ∨ 0 ≤ rd at_ b
instance (at_ : List Int) (b : Int) : Decidable (badAt at_ b) := by unfold badAt; exact inferInstance
/-- Where each block lies in an order; none: it is no order. -/
def scan : List Int → Nat → List Int → Option (List Int)
  | at_, _, [] => some at_
  | at_, i, b :: bs => if badAt at_ b then none else scan (at_.set b.toNat (i : Int)) (i + 1) bs
theorem rd_set {xs : List Int} {i : Nat} {v : Int} (hi : i < xs.length) (b : Int) : rd (xs.set i v) b = if b.toNat = i then v else rd xs b := by
  unfold rd
  rw [List.getD_eq_getElem?_getD, List.getD_eq_getElem?_getD, List.getElem?_set]
  split
  · rename_i h; subst h; simp [hi]
  · rename_i h; rw [if_neg (Ne.symm h)]
theorem scan_some : ∀ {bs at_ r : List Int} {i : Nat}, scan at_ i bs = some r → r.length = at_.length ∧ (∀ b ∈ bs, inL at_.length b ∧ rd at_ b < 0) ∧ bs.Nodup
  | [], at_, r, i, h => by cases h; exact ⟨rfl, by simp, by simp⟩
  | b :: bs, at_, r, i, h => by
    unfold scan at h
    by_cases hb : badAt at_ b
    · rw [if_pos hb] at h; cases h
    · rw [if_neg hb] at h
      unfold badAt at hb
      obtain ⟨h1, h2, h3⟩ := scan_some h
      rw [List.length_set] at h1 h2
      have hlt : b.toNat < at_.length := by omega
      refine ⟨h1, ?_, ?_⟩
      · intro c hc
        rcases List.mem_cons.1 hc with rfl | hc
        · exact ⟨⟨by omega, by omega⟩, by omega⟩
        · obtain ⟨h4, h5⟩ := h2 c hc
          refine ⟨h4, ?_⟩
          rw [rd_set hlt] at h5
          split at h5
          · have := Int.natCast_nonneg i; omega
          · exact h5
      · refine List.nodup_cons.2 ⟨fun hc => ?_, h3⟩
        have h5 := (h2 b hc).2
        rw [rd_set hlt, if_pos rfl] at h5
        have := Int.natCast_nonneg i; omega

def turnB (at_ : List Int) (b : S77) : S77 := ⟨b.f0, turnE at_ b.f1⟩

section
variable {α : Type} {d : Kd α} {f : Nat → Nat} {e base g n cap : Nat} {ok : Nat → Prop} {w w' : World} {xs : List (α × Nat)}
/-- One element of a row whose elements lead to blocks of their own is changed in place, and what it leads to with it. -/
theorem tag_turn (h : (Kd.tag f d).R e w base ok (.slice (some ⟨g, 0, none⟩) n cap) xs) (i : Nat) (hi : i < xs.length) (b : Nat) (x' : α) {cur cur' : Array Value}
    (hc : w.heap[g]? = some (.cells cur e (0, 0))) (hc' : w'.heap[g]? = some (.cells cur' e (0, 0))) (hsz : cur'.size = cur.size) (hfar : ∀ q, (q < i * d.sz ∨ i * d.sz + d.sz ≤ q) → cur'[q]? = cur[q]?)
    (hM : (Kd.tag f d).M w' base (fun k => ok k ∧ k ≠ g) (x', b) ((cur'.toList.drop (i * d.sz)).take d.sz)) (hkeep : ∀ k, k ≠ g → ok k → f k ≠ b → w'.heap[k]? = w.heap[k]?) (htag : ∀ j p, j ≠ i → xs[j]? = some p → p.2 ≠ b) :
    (Kd.tag f d).R e w' base ok (.slice (some ⟨g, 0, none⟩) n cap) (xs.set i (x', b)) := by
  obtain ⟨hn, hnc, _⟩ := Kd.R_reads' h
  obtain ⟨h0, inner, ⟨ho1, ho2⟩, hr⟩ := h
  rcases ho2 with ⟨hv, _⟩ | ⟨g', cap', cur0, hv, hb, hh, hnc', hcm, hcs, ht⟩
  · cases hv
  injection hv with ha _ hca
  injection ha with ha
  injection ha with hg
  subst hg; subst hca
  rw [hc] at hh
  injection hh with hh
  injection hh with hh
  subst hh
  have hin : inner.length = xs.length * d.sz := hr.1
  have hcs' : cur'.toList.length = cap * d.sz := by rw [Array.length_toList, hsz]; exact hcs
  have hxc : xs.length * d.sz ≤ cap * d.sz := Nat.mul_le_mul_right _ (by omega)
  have hl : (cur'.toList.take (xs.length * d.sz)).length = (xs.set i (x', b)).length * d.sz := by
    rw [List.length_set, List.length_take, hcs']
    exact Nat.min_eq_left hxc
  refine ⟨h0, cur'.toList.take (xs.length * d.sz), ⟨hl, .inr ⟨g, cap, cur', by rw [List.length_set, hn], hb, hc', by rw [List.length_set, ← hn]; exact hnc, hcm, by rw [hsz, hcs], by rw [List.length_set]; rfl⟩⟩, hl, ?_⟩
  · intro j p hj
    have hjl : j < xs.length := by
      have := (List.getElem?_eq_some_iff.1 hj).1
      rwa [List.length_set] at this
    have hjs : j * d.sz + d.sz ≤ xs.length * d.sz := by rw [← Nat.succ_mul]; exact Nat.mul_le_mul_right _ hjl
    have hseg : ((cur'.toList.take (xs.length * d.sz)).drop (j * d.sz)).take d.sz = (cur'.toList.drop (j * d.sz)).take d.sz := by
      rw [List.drop_take, List.take_take, Nat.min_eq_left (by omega)]
    show (Kd.tag f d).M w' base _ p (((cur'.toList.take (xs.length * d.sz)).drop (j * d.sz)).take d.sz)
    rw [hseg]
    by_cases hji : j = i
    · subst hji
      rw [List.getElem?_set_self hjl] at hj
      injection hj with hj
      subst hj
      exact (Kd.tag f d).M_mono (fun k hk => ⟨hk.1, fun he => hk.2 (by simpa [Value.ownBlock] using he)⟩) hM
    · rw [List.getElem?_set_ne (Ne.symm hji)] at hj
      have hM0 := hr.2 j p hj
      have hcells : (cur'.toList.drop (j * d.sz)).take d.sz = (inner.drop (j * d.sz)).take d.sz := by
        have ht' : inner = cur.toList.take (xs.length * d.sz) := ht.symm
        rw [ht', List.drop_take, List.take_take, Nat.min_eq_left (by omega)]
        apply List.ext_getElem?
        intro q
        rw [List.getElem?_take, List.getElem?_take]
        by_cases hq : q < d.sz
        · rw [if_pos hq, if_pos hq, List.getElem?_drop, List.getElem?_drop, Array.getElem?_toList, Array.getElem?_toList]
          refine hfar _ ?_
          rcases Nat.lt_or_gt_of_ne hji with hlt | hlt
          · have : j * d.sz + d.sz ≤ i * d.sz := by rw [← Nat.succ_mul]; exact Nat.mul_le_mul_right _ hlt
            exact .inl (by omega)
          · have : i * d.sz + d.sz ≤ j * d.sz := by rw [← Nat.succ_mul]; exact Nat.mul_le_mul_right _ hlt
            exact .inr (by omega)
        · rw [if_neg hq, if_neg hq]
      rw [hcells]
      obtain ⟨x, t⟩ := p
      have htb := htag j (x, t) hji hj
      refine d.M_move (fun k hk => hkeep k (fun e => hk.1.2 (by rw [e]; rfl)) hk.1.1 (fun e => htb (hk.2.symm.trans e))) hM0
end
end Go.Proofs.Ytocdebfbpfmnnaa.Pr
namespace Go.Proofs.Ytocdebfbpfmnnaa.Pr
open Go.RowKit Go.Proofs.YtocdebfbpfmnnaaW.PrintWords Go.Proofs.YtocdebfbpfmnnaaW.PrintLast Go.Proofs.YtocdebfbpfmnnaaW.PrintMore
set_option linter.unusedVariables false

theorem s77_sz : s77.sz = 10 := rfl
theorem turn_row (f : Nat → Nat) (G n cap base i b gA nA cA : Nat) (okG okA : Nat → Prop) (at_ : List Int) (xs : List (S77 × Nat)) (x : S77) (w : World)
    (h : (Kd.tag f s77).R 77 w base okG (.slice (some ⟨G, 0, none⟩) n cap) xs) (hx : xs[i]? = some (x, b)) (hA : (Kd.int .i64).R 3 w base okA (.slice (some ⟨gA, 0, none⟩) nA cA) at_)
    (dA : ∀ k, okA k → k ≠ G ∧ ¬ okG k) (hok : okTurn nA x.f1) (b7 : x.f1.f7.length < 2 ^ 62) (b8 : x.f1.f8.length < 2 ^ 62) (htag : ∀ j p, j ≠ i → xs[j]? = some p → p.2 ≠ b) :
    Calls Try.prog 43 #[.pointer (some ⟨G, i * 10 + 1, none⟩), .slice (some ⟨gA, 0, none⟩) nA cA] w fun e w' => e = .returned (.tuple #[]) ∧
      (Kd.tag f s77).R 77 w' base okG (.slice (some ⟨G, 0, none⟩) n cap) (xs.set i (turnB at_ x, b)) ∧ Touch (fun k => k = G ∨ ((okG k ∧ k ≠ G) ∧ f k = b)) w w' := by
  have hi : i < xs.length := (List.getElem?_eq_some_iff.1 hx).1
  have h' := h
  obtain ⟨hn, hnc, _⟩ := Kd.R_reads' h
  obtain ⟨h0, inner, ⟨ho1, ho2⟩, hr⟩ := h
  rcases ho2 with ⟨hv, _⟩ | ⟨g', cap', cur, hv, hb, hh, hnc', hcm, hcs, ht⟩
  · cases hv
  injection hv with ha _ hca
  injection ha with ha
  injection ha with hg
  subst hg; subst hca
  have hM := hr.2 i (x, b) hx
  obtain ⟨v0, v8, v9, g, g2, hce, h1, h8, h9⟩ := s77_open (show s77.M w base (fun k => (okG k ∧ some k ≠ some G) ∧ f k = b) x _ from hM)
  have hcs' : cur.toList.length = cap * 10 := by rw [Array.length_toList]; exact hcs
  have hxc : xs.length * 10 ≤ cap * 10 := Nat.mul_le_mul_right _ (by omega)
  have his : i * 10 + 10 ≤ xs.length * 10 := by rw [← Nat.succ_mul]; exact Nat.mul_le_mul_right _ hi
  have hce' : (cur.toList.drop (i * 10)).take 10 = [v0, .int .i64 x.f1.f0, .int .i64 x.f1.f1, .int .i64 x.f1.f2, .int .i64 x.f1.f3, .int .u32 x.f1.f4, .int .i64 x.f1.f5, .int .i64 x.f1.f6, v8, v9] := by
    rw [← hce, ← ht]
    show _ = ((cur.toList.take (xs.length * 10)).drop (i * 10)).take 10
    rw [List.drop_take, List.take_take, Nat.min_eq_left (by omega)]
  have hat : ∀ j, j < 10 → cur[i * 10 + j]? = [v0, .int .i64 x.f1.f0, .int .i64 x.f1.f1, .int .i64 x.f1.f2, .int .i64 x.f1.f3, .int .u32 x.f1.f4, .int .i64 x.f1.f5, .int .i64 x.f1.f6, v8, v9][j]? := by
    intro j hj
    rw [← hce', List.getElem?_take, if_pos hj, List.getElem?_drop, Array.getElem?_toList]
  have e : ∀ k, some k ≠ some G ↔ k ≠ G := fun k => by simp
  refine (place_turn.calls G (i * 10 + 1) 77 cur x.f1 v8 v9 gA nA cA at_ base okA _ _ w hh (hat 1 (by decide)) (hat 6 (by decide)) (hat 7 (by decide)) (hat 8 (by decide)) (hat 9 (by decide)) h8 h9 hA
    (fun k hk => (e k).1 hk.1.1.1.2) (fun k hk => (e k).1 hk.1.1.1.2) (fun k hk => ⟨(dA k hk).1, fun h => (dA k hk).2 h.1.1.1.1, fun h => (dA k hk).2 h.1.1.1.1⟩) (fun k h1 h2 => by rw [h1.2] at h2; exact absurd h2.2 (by decide)) hok b7 b8).mono ?_
  rintro e1 w' ⟨rfl, hG, r8, r9, hT⟩
  have hsub : ∀ k, (k = G ∨ ((((okG k ∧ some k ≠ some G) ∧ f k = b) ∧ g k = false) ∧ g2 k = true) ∨ ((((okG k ∧ some k ≠ some G) ∧ f k = b) ∧ g k = false) ∧ g2 k = false)) → (k = G ∨ ((okG k ∧ k ≠ G) ∧ f k = b)) := by
    rintro k (h | h | h)
    · exact .inl h
    · exact .inr ⟨⟨h.1.1.1.1, (e k).1 h.1.1.1.2⟩, h.1.1.2⟩
    · exact .inr ⟨⟨h.1.1.1.1, (e k).1 h.1.1.1.2⟩, h.1.1.2⟩
  have hT' : Touch (fun k => k = G ∨ ((okG k ∧ k ≠ G) ∧ f k = b)) w w' := ⟨hT.os, hT.tape, hT.output, hT.size, fun k hk => hT.block k (fun h => hk (hsub k h))⟩
  refine ⟨rfl, ?_, hT'⟩
  refine tag_turn h' i hi b (turnB at_ x) hh hG (by simp) ?_ ?_ ?_ htag
  · intro q hq
    have hq' : q < i * 10 ∨ i * 10 + 10 ≤ q := hq
    rw [Array.getElem?_setIfInBounds_ne (by omega), Array.getElem?_setIfInBounds_ne (by omega)]
  · have hcell : ((((cur.setIfInBounds (i * 10 + 1 + 6) (.int .i64 (turnE at_ x.f1).f6)).setIfInBounds (i * 10 + 1 + 5) (.int .i64 (turnE at_ x.f1).f5)).toList.drop (i * 10)).take 10) =
        [v0, .int .i64 x.f1.f0, .int .i64 x.f1.f1, .int .i64 x.f1.f2, .int .i64 x.f1.f3, .int .u32 x.f1.f4, .int .i64 (turnE at_ x.f1).f5, .int .i64 (turnE at_ x.f1).f6, v8, v9] := by
      rw [Array.toList_setIfInBounds, Array.toList_setIfInBounds, List.drop_set, if_neg (by omega), List.drop_set, if_neg (by omega), List.take_set, List.take_set, hce',
        show i * 10 + 1 + 6 - i * 10 = 7 by omega, show i * 10 + 1 + 5 - i * 10 = 6 by omega]
      rfl
    show s77.M w' base _ (turnB at_ x) _
    rw [show s77.sz = 10 from rfl] at *
    rw [hcell]
    have h0' : Kd.S s90 90 w' base (fun k => ((okG k ∧ k ≠ G) ∧ f k = b) ∧ g k = true) v0 x.f0 := by
      refine Kd.S_mono (Kd.S_move h1 (fun k hk => hT.block k ?_)) (fun k hk => ⟨⟨⟨hk.1.1.1, (e k).1 hk.1.1.2⟩, hk.1.2⟩, hk.2⟩)
      rintro (h | h | h)
      · exact hk.1.1.2 (by rw [h])
      · rw [hk.2] at h; exact absurd h.1.2 (by decide)
      · rw [hk.2] at h; exact absurd h.1.2 (by decide)
    exact s77_mk (x := turnB at_ x) h0' r8 r9 (fun k hk => hk.1) (fun k hk => ⟨⟨hk.1.1.1.1, (e k).1 hk.1.1.1.2⟩, hk.1.1.2⟩) (fun k hk => ⟨⟨hk.1.1.1.1, (e k).1 hk.1.1.1.2⟩, hk.1.1.2⟩)
      (fun k h1 h2 => by rw [h1.2] at h2; exact absurd h2.1.2 (by decide)) (fun k h1 h2 => by rw [h1.2] at h2; exact absurd h2.1.2 (by decide)) (fun k h1 h2 => by rw [h1.2] at h2; exact absurd h2.2 (by decide))
  · intro k hk ho hf
    refine hT'.block k ?_
    rintro (h | h)
    · exact hk h
    · exact hf h.2
end Go.Proofs.Ytocdebfbpfmnnaa.Pr
