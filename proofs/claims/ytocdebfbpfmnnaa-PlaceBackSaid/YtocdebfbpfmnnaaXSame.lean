/- Pure: the printed comparisons say yes of what is the same. -/
import Derived.Test.YtocdebfbpfmnnaaPrS
namespace Go.Proofs.Ytocdebfbpfmnnaa.Pr
open Go.RowKit Go.Proofs.YtocdebfbpfmnnaaW.PrintWords Go.Proofs.YtocdebfbpfmnnaaW.PrintLast Go.Proofs.YtocdebfbpfmnnaaW.PrintMore
set_option linter.unusedVariables false

theorem wrap_up {i : Int} {n : Nat} (h0 : 0 ≤ i) (h : i < (n : Int)) (hn : n ≤ 140737488355328) : wrap64 (i + 1) = i + 1 := by
  unfold wrap64; omega
theorem sameInts_l0 (l : List Int) (hn : l.length ≤ 140737488355328) : ∀ (d : Nat) (i : Int), 0 ≤ i → i ≤ l.length → (l.length : Int) - i = d → Ev (fun k => switchbacklaw10_SameInts.l0 k l l i) true
  | 0, i, h0, h1, hd => by
    refine Ev.step (f := fun _ => some true) (fun k => ?_) (Ev.now _)
    simp only [switchbacklaw10_SameInts.l0]
    rw [if_neg (by omega)]
  | d + 1, i, h0, h1, hd => by
    refine Ev.step (f := fun k => switchbacklaw10_SameInts.l0 k l l (i + 1)) (fun k => ?_) (sameInts_l0 l hn d (i + 1) (by omega) (by omega) (by omega))
    simp only [switchbacklaw10_SameInts.l0]
    rw [if_pos (by omega), if_pos h0, if_pos (by omega), if_pos trivial, wrap_up h0 (by omega) hn]
theorem sameInts_self (l : List Int) (hn : l.length ≤ 140737488355328) : Ev (fun k => switchbacklaw10_SameInts.f k l l) true := by
  refine Ev.congr (fun k => ?_) (sameInts_l0 l hn l.length 0 (by omega) (by omega) (by omega))
  unfold switchbacklaw10_SameInts.f
  rw [if_pos rfl]
theorem rd90_mem {l : List S90} {i : Int} (h0 : 0 ≤ i) (h1 : i < l.length) : rd_T90 l i ∈ l := by
  unfold rd_T90; rw [List.getD_eq_getElem?_getD, List.getElem?_eq_getElem (show i.toNat < l.length by omega)]; exact List.getElem_mem _
theorem rd77_mem {l : List S77} {i : Int} (h0 : 0 ≤ i) (h1 : i < l.length) : rd_T77 l i ∈ l := by
  unfold rd_T77; rw [List.getD_eq_getElem?_getD, List.getElem?_eq_getElem (show i.toNat < l.length by omega)]; exact List.getElem_mem _
end Go.Proofs.Ytocdebfbpfmnnaa.Pr
