/- PlaceBack: an order of a graph's blocks, and then the order that leads back, give the graph again: true for every graph and every list of numbers, without a condition; the arguments read afterwards as they read before. -/
import Derived.Test.YtocdebfbpfmnnaaRows
import Derived.Test.YtocdebfbpfmnnaaXLawBack
import Derived.Test.YtocdebfbpfmnnaaXArg
import Derived.WalkKit
import Derived.ProofKit
import Derived.OpenShut
import Derived.ShutString
import Derived.ChangeOld
import Derived.Below
import Derived.SizedLaws
namespace Go.Proofs.Ytocdebfbpfmnnaa.placeBack
open Go.ChangeShapes Go.WideShapes Go.ChangeAt Go.RowKit
open Go.Proofs.Ytocdebfbpfmnnaa.Pr (open_graph open_list PlaceBack.walk)
set_option linter.unusedVariables false
theorem own : ownKnob Try.prog.godebug = none := by kernel_rfl
theorem laidOut : laidOutB Try.prog = true := by kernel_rfl
set_option maxRecDepth 100000 in
theorem lifted (os : Os) (started : os.Started) (H : Type) (enc : TypeId × Value → H) :
    ReturnsInHanded {} Try.checked os 6 .any (Rows.placeBackSpec.pre6 enc Try.prog Try.f6 Rows.placeBackRow.domain false) (Rows.placeBackSpec.post enc Try.prog Try.f6 false true false false) := by
  refine returnsInHanded_of_change_sized (C := Try.checked) own started (by kernel_rfl) Try.func6
    (ChangeSpec.witness6 (enc := enc) (C := Try.checked) false ⟨#[], #[.agg #[.slice none 0 0, .int .i64 0, .slice none 0 0, .slice none 0 0], .slice none 0 0], []⟩ 8 (by kernel_rfl) (by kernel_rfl) (by kernel_rfl) (by kernel_rfl)) ?_
  intro W base args ds gs before hval0 hW hcnd hsz0 _
  have hsz : (DataW.weightsEach Try.prog (Try.f6.params.toList ++ Rows.placeBackSpec.plain.varTypes Try.prog) (ds ++ gs)).all (· ≤ reachBytes) = true := hsz0
  have hval : ∀ (j : Nat) t v, Try.f6.params[j]? = some t → args[j]? = some v → Value.okWide Try.prog W .any base t v := hval0
  have hW' := hW
  obtain ⟨p, q, hA0, hV, rfl, hfz, hnd⟩ := hW
  have hA : DataW.TrodAll enc Try.prog W 0 (fun _ => true) true Try.f6.params.toList args.toList ds p := hA0
  rw [Try.params6] at hA hval hsz
  obtain ⟨v0, vs0, d0, ds0, p0, q0, hargs, rfl, rfl, h0, r0⟩ := trodAll_cons hA
  obtain ⟨v1, vs1, d1, ds1, p1, q1, rfl, rfl, rfl, h1, r1⟩ := trodAll_cons r0
  obtain ⟨rfl, rfl, rfl⟩ := trodAll_nil r1
  obtain rfl : args = #[v0, v1] := by cases args; simp_all
  obtain ⟨rfl, rfl⟩ := trodVars_none hV
  have hs : (DataW.weightsEach Try.prog [26, 22] [d0, d1]).all (· ≤ reachBytes) = true := hsz
  simp only [DataW.weightsEach, List.all_append, List.append_nil, Bool.and_eq_true] at hs
  have lt0 : ∀ x ∈ p0, x.block < W.heap.size := by obtain ⟨m, hm⟩ := h0; exact DataW.trod_lt m _ _ _ hm
  have lt1 : ∀ x ∈ p1, x.block < W.heap.size := by obtain ⟨m, hm⟩ := h1; exact DataW.trod_lt m _ _ _ hm
  have k0 := h0
  have k1 := h1
  obtain ⟨A0, c0, A2, c2, A3, c3, x, rfl, l0, g0, l2, g2, l3, g3, s0, s2, gb⟩ := open_graph (hval 0 26 v0 rfl rfl) h0 hs.1
  obtain ⟨AH, cH, how, rfl, lH, gH, wH, sH⟩ := open_list (hval 1 22 v1 rfl rfl) h1 hs.2
  clear hA0 hval0 hsz0 hsz
  refine (PlaceBack.walk A0 c0 x.f0 x.f1 A2 c2 x.f2 A3 c3 x.f3 AH cH how W g0 l0 g2 l2 g3 l3 gH lH ⟨s0, s2⟩ gb wH (by omega)).mono fun e W' ⟨he, bel⟩ => ?_
  subst he
  exact ⟨_, rfl, _, _, _, [], _, [], hW', trodAll_mk1 (shut_bool Try.underlying4 _), (trodAll_cons_mk (Below.trod laidOut (by kernel_rfl) (of_decide_eq_true (by kernel_rfl)) k0 bel lt0) (trodAll_cons_mk (Below.trod laidOut (by kernel_rfl) (of_decide_eq_true (by kernel_rfl)) k1 bel lt1) trodAll_mk0)), rfl, bel.frame _, fun h => by cases h⟩
theorem over : Rows.placeBackRow.holds Try.pinned (OpenSpec.ofChange Rows.placeBackSpec) :=
  OpenClaim.holds_of_wide 6 Try.f6 rfl rfl rfl rfl rfl rfl rfl ⟨rfl, rfl, rfl, rfl, rfl⟩ rfl rfl rfl rfl rfl (by kernel_rfl) Try.func6 (by kernel_rfl)
    (of_decide_eq_true (by kernel_rfl)) (by unfold Func.isWrapper; first | (rw [if_pos (by decide +kernel)]; kernel_rfl) | (rw [if_neg (by decide +kernel)]; exact ⟨rfl, rfl⟩))
    (fun os started H enc _ => lifted os started H enc)
theorem proved : Rows.PlaceBackSaid := over
#print axioms proved
end Go.Proofs.Ytocdebfbpfmnnaa.placeBack
namespace Go.Proofs.Ytocdebfbpfmnnaa
/-- The row, under a short name, for the claim. -/
theorem placeBack_holds : Rows.PlaceBackSaid := placeBack.proved
end Go.Proofs.Ytocdebfbpfmnnaa
