/- Plain lemmas for the third loop of place.Reorder. -/
import Derived.Test.YtocdebfbpfmnnaaXBack
import Derived.Test.YtocdebfbpfmnnaaXTurnA
import Derived.Deep.MidRow
namespace Go.Proofs.Ytocdebfbpfmnnaa.Pr
open Go.RowKit Go.Proofs.YtocdebfbpfmnnaaW.PrintWords Go.Proofs.YtocdebfbpfmnnaaW.PrintLast Go.Proofs.YtocdebfbpfmnnaaW.PrintMore
set_option linter.unusedVariables false
/-- A row that is filled from its begin on. -/
def filled {β : Type} (F : Int → β) (z : β) (order : List Int) (i : Nat) : List β := (order.take i).map F ++ List.replicate (order.length - i) z
section
variable {β : Type} {F : Int → β} {z : β} {order : List Int} {i : Nat}
theorem length_filled (hi : i ≤ order.length) : (filled F z order i).length = order.length := by simp [filled]; omega
theorem filled_zero : filled F z order 0 = List.replicate order.length z := by simp [filled]
theorem filled_all : filled F z order order.length = order.map F := by simp [filled]
theorem filled_set (hi : i < order.length) : (filled F z order i).set i (F order[i]) = filled F z order (i + 1) := by
  have hl : ((order.take i).map F).length = i := by rw [List.length_map, List.length_take]; omega
  unfold filled
  rw [List.set_append_right _ _ (by rw [hl]; exact Nat.le_refl _), hl, Nat.sub_self, show order.length - i = (order.length - (i + 1)) + 1 by omega, List.replicate_succ, List.set_cons_zero,
    List.take_succ_eq_append_getElem hi, List.map_append, List.append_assoc]
  rfl
theorem filled_here (hi : i < order.length) : (filled F z order i)[i]? = some z := by
  have hl : ((order.take i).map F).length = i := by rw [List.length_map, List.length_take]; omega
  unfold filled
  rw [List.getElem?_append_right (by omega), hl, Nat.sub_self, List.getElem?_replicate, if_pos (by omega)]
theorem filled_other {j : Nat} {p : β} (h : (filled F z order i)[j]? = some p) : (∃ hj : j < order.length, j < i ∧ p = F order[j]) ∨ p = z := by
  unfold filled at h
  by_cases hj : j < ((order.take i).map F).length
  · rw [List.getElem?_append_left hj] at h
    rw [List.length_map, List.length_take] at hj
    rw [List.getElem?_map, List.getElem?_take, if_pos (by omega), List.getElem?_eq_getElem (by omega)] at h
    exact .inl ⟨by omega, by omega, (Option.some.inj h).symm⟩
  · rw [List.getElem?_append_right (by omega), List.getElem?_replicate] at h
    split at h
    · exact .inr (Option.some.inj h).symm
    · cases h
end
theorem Touch.sets {S : Nat → Prop} {w w' : World} (h : Touch S w w') {g : Nat} (hg : S g) (o : Nat) (vs : List Value) : Touch S w (w'.setCells g o vs) := by
  obtain ⟨h1, h2, h3, h4⟩ := setCells_same g vs o w'
  exact ⟨h1.trans h.os, h2.trans h.tape, h3.trans h.output, h4.trans h.size, fun k hk => (setCells_far vs o k (fun e => hk (e ▸ hg))).trans (h.block k hk)⟩
theorem Touch.trans {S T : Nat → Prop} {w w1 w2 : World} (h : Touch S w w1) (h2 : Touch T w1 w2) (hS : ∀ k, T k → S k) : Touch S w w2 :=
  ⟨h2.os.trans h.os, h2.tape.trans h.tape, h2.output.trans h.output, h2.size.trans h.size, fun k hk => (h2.block k (fun e => hk (hS k e))).trans (h.block k hk)⟩
theorem Touch.mono {S T : Nat → Prop} {w w1 : World} (h : Touch S w w1) (hS : ∀ k, S k → T k) : Touch T w w1 :=
  ⟨h.os, h.tape, h.output, h.size, fun k hk => h.block k (fun e => hk (hS k e))⟩
theorem nodup_rd {order : List Int} (h : order.Nodup) {i j : Nat} (hi : i < order.length) (hj : j < order.length) (hne : i ≠ j) : rd order (i : Int) ≠ rd order (j : Int) := by
  rw [rd_at hi, rd_at hj]
  intro e
  exact hne ((List.getElem_inj h).1 e)
end Go.Proofs.Ytocdebfbpfmnnaa.Pr
