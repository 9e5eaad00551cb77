/- slices.Sorted(maps.Keys(m)) at a map of the call's own, by the shelf's contracts. -/
import Derived.Test.YtocdebfbpfmnnaaPr0
import Derived.Test.YtocdebfbpfmnnaaXPlain
import Derived.Test.YtocdebfbpfmnnaaXNextShelf
import Derived.Maps.OwnOps
namespace Go.Proofs.Ytocdebfbpfmnnaa.Pr
open Go.RowKit Go.Maps Go.Sort Go.Shelf Go.Proofs.YtocdebfbpfmnnaaW.PrintWords
set_option linter.unusedVariables false

theorem law3 : Keyed Try.prog 3 := int_keyed Try.underlying3
theorem zero3 (w : World) : (zeroValue 3).run Try.prog w = .ok (.int .i64 0) w := by kernel_rfl

/-- Block b is a map from ints to ints of the call's own, written n times, whose keys are just these. -/
def Tos (w : World) (b n : Nat) (ks : List Int) : Prop := ∃ D : DataW Unit, w.ownsMap Try.prog 3 (plainElem Try.prog 3) b n D ∧ KeysOf D ks
theorem Tos.made (w : World) : Tos (w.alloc (.map #[] 0)) w.heap.size 0 [] := ⟨_, World.ownsMap_made _ _ _ _, KeysOf.nil⟩
theorem Tos.made' {w : World} {b : Nat} (h : b = w.heap.size) : Tos (w.alloc (.map #[] 0)) b 0 [] := by subst h; exact Tos.made w
theorem Tos.lt {w : World} {b n : Nat} {ks : List Int} (h : Tos w b n ks) : b < w.heap.size := by obtain ⟨D, h, _⟩ := h; exact h.lt
theorem Tos.alloc {w : World} {b n : Nat} {ks : List Int} (h : Tos w b n ks) (o : Obj) : Tos (w.alloc o) b n ks := by obtain ⟨D, h, k⟩ := h; exact ⟨D, h.alloc o, k⟩
theorem Tos.below {w w1 : World} {b n : Nat} {ks : List Int} (h : Tos w b n ks) (hb : Below w.heap.size w w1) : Tos w1 b n ks := by
  obtain ⟨D, h, k⟩ := h; exact ⟨D, h.kept (grown_of_below hb none) (by simp), k⟩
theorem Tos.congr {w : World} {b n : Nat} {ks ks' : List Int} (h : Tos w b n ks) (hm : ∀ x, x ∈ ks ↔ x ∈ ks') : Tos w b n ks' := by obtain ⟨D, h, k⟩ := h; exact ⟨D, h, k.congr hm⟩
section
variable {w : World} {ops : Array Oper} {rest : List Oper} {o : Oper} {a : Act} {Q : Exit → Act → World → Prop}
theorem tos_lookup (hg : o.guard = none) (m x : Operand) (hop : o.op = Op.lookup 133 m x false) (b n : Nat) (ks : List Int) (hm : a.eval m = .map (some b)) (h : Tos w b n ks) (k : Int) (hx : a.eval x = .int .i64 k) (hk : wf64 k)
    (hK : ∀ c : Int, wpList Try.prog ops Q rest (a.put o.dst (.int .i64 c)) w) : wpList Try.prog ops Q (o :: rest) a w := by
  obtain ⟨D, h, _⟩ := h
  exact wpList_lookup_own_int w hg m x 133 hop 3 3 .i64 law3 Try.underlying133 Try.underlying3 (zero3 _) b n D hm h _ _ hx (keyOf_int_mk Try.underlying3 (wf64_wf hk)) (fun c _ _ => hK c)
theorem tos_update (hg : o.guard = none) (m x v : Operand) (hop : o.op = Op.mapUpdate 133 m x v) (b n : Nat) (ks : List Int) (hm : a.eval m = .map (some b)) (h : Tos w b n ks) (hn : n < 17592186044416) (k : Int) (hx : a.eval x = .int .i64 k) (hk : wf64 k) (c : Int) (hv : a.eval v = .int .i64 (wrap64 c))
    (hK : ∀ w1, Tos w1 b (n + 1) (k :: ks) → w.grownBy w1 (some b) → wpList Try.prog ops Q rest (a.put o.dst undef) w1) : wpList Try.prog ops Q (o :: rest) a w := by
  obtain ⟨D, h, hk'⟩ := h
  exact wpList_mapUpdate_own w hg m x v 133 hop 3 3 law3 Try.underlying133 _ b n D hm h (by unfold maxLen; omega) _ _ _ hx hv (keyOf_int_mk Try.underlying3 (wf64_wf hk)) _ [] (plainElem_int Try.underlying3 (wrap64_wf _)) (fun w1 h1 g1 => hK w1 ⟨_, h1, hk'.put k _⟩ g1)
end

/-- slices.Sort's two contracts at this dump, at the fence that asks nothing. -/
theorem sortsA (m : Nat) : AnyZI.SortsIn Try.prog Try.sortedA_ren Fence.wide m :=
  ⟨fun blk off cap ss W hH hblk hsz => callsIn_wide.2 (AnyM.slices_Sort_int Try.sortA blk off cap ss W hH hblk hsz),
   fun p cap W => callsIn_wide.2 (AnyM.slices_Sort_int_none Try.sortA p cap W)⟩
theorem keys_calls (mb : Option Nat) (W : World) : Calls Try.prog 91 #[.map mb] W fun e w' => e = .returned (.func (.func 108) #[] #[.pointer (some ⟨W.heap.size, 0, none⟩)]) ∧ W.alloc (.cells #[.map mb] 133) = w' :=
  (callsIn_wide.1 (AnyZI.keys_in Try.keysA Fence.wide 5 trivial rfl mb W)).mono fun e w' ⟨h1, h2⟩ => ⟨h1, h2.symm⟩
theorem sorted_calls (b n : Nat) (ks : List Int) (w : World) (h : Tos w b n ks) (hl : ks.length * 8 ≤ 140737488355328) (p : Nat) (hp : p = w.heap.size) :
    Calls Try.prog 90 #[.func (.func 108) #[] #[.pointer (some ⟨p, 0, none⟩)]] (w.alloc (.cells #[.map (some b)] 133)) fun e w' =>
      ∃ v, e = .returned v ∧ Kd.R (Kd.int .i64) 3 w' w.heap.size (fun _ => True) v (nextL ks) ∧ Below w.heap.size w w' := by
  subst hp
  obtain ⟨D, hown, hk⟩ := h
  have hbl := hown.lt
  have hsz := hk.length
  have hmax : Maps.size D ≤ maxLen := by unfold maxLen; omega
  have hbytes : Maps.size D * 8 ≤ 140737488355328 := by omega
  have hseq : SeqGives Fence.wide 2 Try.prog 108 #[.pointer (some ⟨w.heap.size, 0, none⟩)] encZ (fun ss => ss.Perm (intKeys D)) (Maps.size D) (w.alloc (.cells #[.map (some b)] 133)) :=
    AnyZI.keys_gives (ρ := Try.keysA_ren) { Try.keysA with } Fence.wide _ trivial rfl (by omega) w.heap.size b n D _ (by simp) (by simp) (by
      obtain ⟨es, clock, hb, Ft, hs, hD⟩ := hown
      exact ⟨es, clock, (Below.heap_alloc _ _ b hbl).trans hb, Ft, hs, hD⟩)
  have cS := AnyZI.sorted_in Try.sortedA Fence.wide 5 trivial trivial trivial trivial rfl (by omega) (sortsA _) (enters_of Try.func107 (by kernel_rfl) rfl) 108 #[.pointer (some ⟨w.heap.size, 0, none⟩)] trivial (enters_of Try.func108 (by kernel_rfl) rfl) _ _ hmax hbytes _ hseq
  change CallsIn _ _ Try.prog 90 _ _ _ at cS
  refine (callsIn_wide.1 cS).mono ?_
  rintro e w' ⟨v, ss, rfl, hS, hrow, hnil, hb⟩
  rw [hk.sorted hS] at hrow
  have hlen : ss.length = (nextL ks).length := by rw [← hk.sorted hS, List.length_mergeSort]
  rw [hlen] at hrow
  have hrow' := ownsRow_base_a (base' := w.heap.size) hrow (by simp)
  exact ⟨v, rfl, Kd.R_of_own hrow' (fun _ _ => trivial), ((Below.refl _ w).alloc (Nat.le_refl _) _).trans (hb.mono (by simp))⟩
end Go.Proofs.Ytocdebfbpfmnnaa.Pr
