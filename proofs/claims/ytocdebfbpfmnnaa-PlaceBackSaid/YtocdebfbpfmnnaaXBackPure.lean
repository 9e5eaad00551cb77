/- Pure: what PlaceBack's walk asks. -/
import Derived.Test.YtocdebfbpfmnnaaXRefB
import Derived.Test.YtocdebfbpfmnnaaXReord
import Derived.Test.YtocdebfbpfmnnaaXPlaced
import Derived.Test.YtocdebfbpfmnnaaXSameW
namespace Go.Proofs.Ytocdebfbpfmnnaa.Pr
open Go.RowKit Go.Proofs.YtocdebfbpfmnnaaW.PrintWords Go.Proofs.YtocdebfbpfmnnaaW.PrintLast Go.Proofs.YtocdebfbpfmnnaaW.PrintMore
set_option linter.unusedVariables false
/-- What is asked of a graph's blocks. -/
structure GoodB (L : List S77) : Prop where
  blk : ∀ b ∈ L, okBlk b
  slim : ∀ b ∈ L, slimB b
  wf : ∀ b ∈ L, ∀ t ∈ targetsOf b.f1, wf64 t
theorem GoodB.take {L : List S77} (h : GoodB L) (n : Nat) : GoodB (L.take n) :=
  ⟨fun b hb => h.blk b (List.mem_of_mem_take hb), fun b hb => h.slim b (List.mem_of_mem_take hb), fun b hb => h.wf b (List.mem_of_mem_take hb)⟩
theorem okTargets_of {b : S77} (h1 : okBlk b) (h2 : slimB b) (h3 : ∀ t ∈ targetsOf b.f1, wf64 t) : okTargets b.f1 := by
  obtain ⟨_, _, h7, h8⟩ := h1
  unfold slimB at h2
  refine ⟨h3, ?_⟩
  unfold targetsOf
  split
  · simp
  · split
    · simp; omega
    · split
      · simp; omega
      · split <;> simp
theorem edges_some {L : List S77} (h : GoodB L) (l0 : List Int) (a1 : Int) (l2 : List S79) (hn : 1 ≤ L.length) (hn2 : L.length ≤ 20000) (hw : walksL L.length L = true) : place_edges.f l0 a1 l2 L = some (edgesL L) := by
  unfold place_edges.f
  rw [if_pos ⟨hn, hn2⟩, if_pos (fun b hb => okTargets_of (h.blk b hb) (h.slim b hb) (h.wf b hb)), if_pos hw]
theorem edgesL_ne {L : List S77} (hn : 1 ≤ L.length) : edgesL L ≠ [] := by
  intro h
  have := congrArg List.length h
  rw [edgesL, List.length_map, List.length_nil] at this
  omega
theorem reorderR_ok {L : List S77} (l0 : List Int) (a1 : Int) (l2 : List S79) {order at_ : List Int} (hn : 1 ≤ L.length) (h : Leads L.length order at_) (h0 : rd order 0 = 0) : reorderR (edgesL L) ⟨l0, a1, l2, L⟩ order = (⟨l0, a1, l2, reorderL L at_ order⟩, 0) := by
  unfold reorderR
  rw [if_neg (fun hh => hh.elim (edgesL_ne hn) (fun hh => hh.elim (fun hh => hh h.lo) (fun hh => hh h0)))]
  rw [show List.replicate order.length (-1) = List.replicate L.length (-1) by rw [h.lo], scan_leads h h0]
theorem turnB_sizes (at_ : List Int) (b : S77) : (turnB at_ b).f0 = b.f0 ∧ (turnB at_ b).f1.f7.length = b.f1.f7.length ∧ (turnB at_ b).f1.f8.length = b.f1.f8.length := by
  unfold turnB turnE
  refine ⟨rfl, ?_, ?_⟩
  · simp only
    split
    · exact List.length_map _
    · rfl
  · simp only
    split
    · exact List.length_map _
    · rfl
theorem reorderL_from {L : List S77} {order at_ : List Int} (h : Leads L.length order at_) {b : S77} (hb : b ∈ reorderL L at_ order) : ∃ c ∈ L, b = turnB at_ c := by
  unfold reorderL at hb
  obtain ⟨i, hi, rfl⟩ := List.mem_map.1 hb
  obtain ⟨j, hj, rfl⟩ := List.mem_iff_getElem.1 hi
  have h1 := (h.there (j : Int) ⟨by omega, by have := h.lo; omega⟩).1
  rw [rd_at hj] at h1
  exact ⟨_, rdB_mem h1, rfl⟩
theorem GoodB.reorder {L : List S77} (h : GoodB L) {order at_ : List Int} (hl : Leads L.length order at_) (hn : L.length ≤ 20000) (hok : ∀ b ∈ L, okEnd L.length b.f1) : GoodB (reorderL L at_ order) := by
  refine ⟨fun b hb => ?_, fun b hb => ?_, fun b hb t ht => ?_⟩
  · obtain ⟨c, hc, rfl⟩ := reorderL_from hl hb
    obtain ⟨e0, e7, e8⟩ := turnB_sizes at_ c
    obtain ⟨h0, hx, h7, h8⟩ := h.blk c hc
    unfold okBlk
    rw [e0, e7, e8]
    exact ⟨h0, hx, h7, h8⟩
  · obtain ⟨c, hc, rfl⟩ := reorderL_from hl hb
    have := h.slim c hc
    unfold slimB at this ⊢
    rw [(turnB_sizes at_ c).2.2]
    exact this
  · have h1 := okEnd_reorder hl hok b hb t ht
    unfold inL at h1
    unfold wf64
    omega
/-- The list that leads back, out of what the loop tells. -/
theorem leads_of_back {n : Nat} {order bk : List Int} (h : IsOrder n order) (hl : bk.length = n) (hb : ∀ j : Nat, j < n → rd bk (rd order (j : Int)) = (j : Int)) : Leads n order bk := by
  refine ⟨h.length, hl, fun i hi => ?_, fun b hbn => ?_⟩
  · obtain ⟨j, rfl⟩ : ∃ j : Nat, i = j := ⟨i.toNat, by have := hi.1; omega⟩
    have hj : j < n := by have := hi.2; omega
    exact ⟨h.mem.1 (rd_mem hi.1 (by have := h.length; omega)), hb j hj⟩
  · obtain ⟨j, hj, he⟩ := List.mem_iff_getElem.1 (h.mem.2 hbn)
    have hjn : j < n := by have := h.length; omega
    have h1 := hb j hjn
    rw [rd_at hj, he] at h1
    rw [h1]
    exact ⟨⟨by omega, by omega⟩, by rw [rd_at hj]; exact he⟩
theorem back_step {n q : Nat} {order bk : List Int} (h : IsOrder n order) (hl : bk.length = n) (hq : q < n) (hb : ∀ j : Nat, j < q → rd bk (rd order (j : Int)) = (j : Int)) : ∀ j : Nat, j < q + 1 → rd (bk.set (rd order (q : Int)).toNat (q : Int)) (rd order (j : Int)) = (j : Int) := by
  intro j hj
  have ho := h.length
  have hin : ∀ i : Nat, i < n → inL n (rd order (i : Int)) := fun i hi => h.mem.1 (rd_mem (by omega) (by omega))
  have h1 := hin q hq
  rw [rd_set (by have := h1.1; have := h1.2; omega)]
  by_cases he : j = q
  · subst he; rw [if_pos rfl]
  · have h2 := nodup_rd h.nodup (i := j) (j := q) (by omega) (by omega) he
    have h3 := hin j (by omega)
    rw [if_neg (by have := h1.1; have := h3.1; omega)]
    exact hb j (by omega)
end Go.Proofs.Ytocdebfbpfmnnaa.Pr
