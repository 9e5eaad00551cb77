/- A row of one graph of the call's own, opened. -/
import Derived.Test.YtocdebfbpfmnnaaXTurnA
import Derived.Test.YtocdebfbpfmnnaaXCopy
namespace Go.Proofs.Ytocdebfbpfmnnaa.Pr
open Go.RowKit Go.Proofs.YtocdebfbpfmnnaaW.PrintWords Go.Proofs.YtocdebfbpfmnnaaW.PrintLast Go.Proofs.YtocdebfbpfmnnaaW.PrintMore
set_option linter.unusedVariables false

theorem C_one {α : Type} {d : Kd α} {w : World} {g : Nat} {t : TypeId} {x : α} {cs : List Value} (hK : d.K w x cs) (h : w.heap[g]? = some (.cells cs.toArray t (0, 0))) : d.C w (some ⟨g, 0, none⟩) 1 [x] := by
  refine ⟨rfl, by decide, fun _ => ⟨_, rfl, fun j p hj => ?_⟩⟩
  have hj0 : j = 0 := by
    have := (List.getElem?_eq_some_iff.1 hj).1
    simpa using this
  subst hj0
  obtain rfl : x = p := by simpa using hj
  refine ⟨cs, d.K_len hK, hK, fun i u hu => ?_⟩
  rw [Nat.zero_mul, Nat.zero_add, add_plain, blk_cell h i, List.getElem?_toArray]
  exact hu
theorem int_own {w : World} {base e g n cap : Nat} {ok : Nat → Prop} {xs : List Int} (h : (Kd.int .i64).R e w base ok (.slice (some ⟨g, 0, none⟩) n cap) xs) : (Kd.int .i64).R e w base (fun k => k = g) (.slice (some ⟨g, 0, none⟩) n cap) xs :=
  ⟨fun k hk => by simpa [Value.ownBlock, eq_comm] using hk, h.2⟩
theorem graph_parts {w : World} {base : Nat} {ok : Nat → Prop} {vF : Value} {g : S26} (h : Kd.S s26 26 w base ok vF [g]) (hn : 1 ≤ g.f3.length) :
    ∃ (gF cF : Nat) (A0 : Option Addr) (c0 : Nat) (A2 : Option Addr) (c2 B cB : Nat) (f : Nat → Nat) (ok3 : Nat → Prop), vF = .slice (some ⟨gF, 0, none⟩) 1 cF ∧
      w.cell? ⟨gF, 0, none⟩ = some (.slice A0 g.f0.length c0) ∧ w.cell? ⟨gF, 1, none⟩ = some (.int .i64 g.f1) ∧ w.cell? ⟨gF, 2, none⟩ = some (.slice A2 g.f2.length c2) ∧ w.cell? ⟨gF, 3, none⟩ = some (.slice (some ⟨B, 0, none⟩) g.f3.length cB) ∧
      (Kd.int .i64).R 3 w base (fun k => base ≤ k ∧ k < w.heap.size ∧ ¬ ok3 k) (.slice A0 g.f0.length c0) g.f0 ∧ k79.R 79 w base (fun k => base ≤ k ∧ k < w.heap.size ∧ ¬ ok3 k) (.slice A2 g.f2.length c2) g.f2 ∧
      (Kd.tag f s77).R 77 w base ok3 (.slice (some ⟨B, 0, none⟩) g.f3.length cB) g.f3.zipIdx ∧ (∀ k, ok3 k → base ≤ k ∧ k < w.heap.size) ∧ ok3 B := by
  obtain ⟨gF, cF, hv, _⟩ := Kd.R_form (Kd.S_R h) (by simp)
  subst hv
  obtain ⟨c, _, hM, hcc⟩ := Kd.R_get (Kd.S_R h) z26 0 (by decide) (by simp)
  obtain ⟨v0, v2, v3, g1, g2, rfl, h0, h2, h3⟩ := s26_open (show s26.M w base _ g c from hM)
  obtain ⟨A0, c0, rfl, _⟩ := Kd.R_reads h0
  obtain ⟨A2, c2, rfl, _⟩ := Kd.R_reads h2
  have h3' := Kd.S_bound h3
  obtain ⟨f, hT⟩ := h3'
  obtain ⟨B, cB, hv3, _⟩ := Kd.R_form hT (by rw [List.length_zipIdx]; exact hn)
  rw [List.length_zipIdx] at hv3
  subst hv3
  have y : ∀ j u, [Value.slice A0 g.f0.length c0, .int .i64 g.f1, .slice A2 g.f2.length c2, .slice (some ⟨B, 0, none⟩) g.f3.length cB][j]? = some u → w.cell? ⟨gF, j, none⟩ = some u := by
    intro j u hu
    have := hcc j u hu
    rwa [show (0 : Int).toNat * s26.sz + j = j by simp, add_plain] at this
  refine ⟨gF, cF, A0, c0, A2, c2, B, cB, f, _, rfl, y 0 _ rfl, y 1 _ rfl, y 2 _ rfl, y 3 _ rfl, ?_, ?_, hT, fun k hk => ⟨hk.2.1, hk.2.2.1⟩, hT.1 B rfl⟩
  · refine Kd.R_mono (Kd.R_bound h0) (fun k hk => ⟨hk.2.1, hk.2.2.1, fun h3 => ?_⟩)
    have h1 := hk.1.2
    rw [h3.1.1.2] at h1
    cases h1
  · refine Kd.R_mono (Kd.R_bound h2) (fun k hk => ⟨hk.2.1, hk.2.2.1, fun h3 => ?_⟩)
    have h1 := hk.1.2
    rw [h3.1.2] at h1
    cases h1
end Go.Proofs.Ytocdebfbpfmnnaa.Pr
