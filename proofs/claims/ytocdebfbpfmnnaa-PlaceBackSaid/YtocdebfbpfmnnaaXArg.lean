/- Arguments that are structs and slices of structs, opened: a value's datum, read as a kind says. -/
import Derived.Test.YtocdebfbpfmnnaaPr0
import Derived.Deep.Slices
import Derived.SizedLaws
import Derived.Test.YtocdebfbpfmnnaaXBackPure
import Derived.WideShapes
import Derived.ProofKit
namespace Go.Proofs.Ytocdebfbpfmnnaa.Pr
open Go.RowKit Go.Proofs.YtocdebfbpfmnnaaW.PrintWords Go.Proofs.YtocdebfbpfmnnaaW.PrintLast Go.Proofs.YtocdebfbpfmnnaaW.PrintMore
set_option linter.unusedVariables false

/-- What a value of a type reads as, its kind can be read from; and what its weights say. -/
structure Opens (P : Program) {α : Type} (d : Kd α) (t : TypeId) (good : α → Prop) : Prop where
  cells : P.cellsOf t = d.sz
  out : ∀ {H : Type} {enc : TypeId × Value → H} {w : World} {base : Nat} {spare : Nat → Bool} {held : Bool} {fuel : Nat} {cs : List Value} {D : DataW H} {ps : List MemPlace},
    DataW.trod enc P w base spare held fuel t cs = some (D, ps) → (D.weights P t).all (· ≤ reachBytes) = true → ∃ x, d.K w x cs ∧ good x
theorem Opens.int {P : Program} {t : TypeId} {k : IntKind} (ht : P.underlying t = some (.int k)) (hc : P.cellsOf t = 1) : Opens P (Kd.int k) t (fun x => (Lit.int k x).wf = true) :=
  ⟨hc, fun h _ => by
    obtain ⟨n, rfl, _, hw⟩ := DataW.trod_int ht h
    exact ⟨n, rfl, hw⟩⟩
theorem Opens.bool {P : Program} {t : TypeId} (ht : P.underlying t = some .bool) (hc : P.cellsOf t = 1) : Opens P Kd.bool t (fun _ => True) :=
  ⟨hc, fun h _ => by
    obtain ⟨n, rfl, _⟩ := DataW.trod_bool ht h
    exact ⟨n, rfl, trivial⟩⟩
theorem weightsAll_mem {H : Type} {P : Program} {e : TypeId} : ∀ {l : List (DataW H)}, (DataW.weightsAll P e l).all (· ≤ reachBytes) = true → ∀ d ∈ l, (d.weights P e).all (· ≤ reachBytes) = true
  | [], _, d, hd => by cases hd
  | y :: l, h, d, hd => by
    rw [DataW.weightsAll, List.all_append, Bool.and_eq_true] at h
    rcases List.mem_cons.1 hd with rfl | hd
    · exact h.1
    · exact weightsAll_mem h.2 d hd
theorem Opens.slice {P : Program} {α : Type} [Inhabited α] {d : Kd α} {t e : TypeId} {good : α → Prop} (ht : P.underlying t = some (.slice e)) (hc : P.cellsOf t = 1) (ho : Opens P d e good) :
    Opens P (Kd.slice e d) t (fun xs => (∀ x ∈ xs, good x) ∧ xs.length * P.bytesOf e ≤ reachBytes) :=
  ⟨hc, fun {H enc w base spare held fuel cs D ps} h hs => by
    rcases Go.Deep.open_slice ht h with ⟨rfl, hx⟩ | ⟨a, len, cap, m, n, E, Pl, rfl, hb, hl, hm, hmm, hx, hi⟩
    · exact ⟨[], ⟨none, 0, rfl, Nat.le_refl _, rfl, Nat.zero_le _, fun h => absurd h (Nat.lt_irrefl _)⟩, by simp, by simp⟩
    · injection hx with hD hP
      subst hD
      have hlm : len ≤ m := by rw [hmm]; split <;> omega
      simp only [DataW.weights, ht, List.all_cons, List.all_append, Bool.and_eq_true, decide_eq_true_eq, List.length_map, List.length_range] at hs
      obtain ⟨hs1, hs2, _⟩ := hs
      have hall := weightsAll_mem hs2
      obtain ⟨f, hf⟩ := Go.Deep.choose_lt (α := α) (n := len) (p := fun i x => good x ∧ ∃ c, c.length = d.sz ∧ d.K w x c ∧ ∀ j u, c[j]? = some u → w.cell? (a.add (i * d.sz + j)) = some u) (fun i hil => by
        obtain ⟨c, h1, h2⟩ := hi i (by omega)
        obtain ⟨x, hK, hg⟩ := ho.out h2 (hall (E i) (List.mem_map.2 ⟨i, List.mem_range.2 hil, rfl⟩))
        obtain ⟨_, h3, h4⟩ := World.cells?_some h1
        refine ⟨x, hg, c, d.K_len hK, hK, fun j u hu => ?_⟩
        have hj : j < P.cellsOf e := by rw [← h3]; exact (List.getElem?_eq_some_iff.1 hu).1
        have h5 := h4 j hj
        rw [Go.Deep.add_add, ho.cells] at h5
        rw [h5, hu])
      refine ⟨(List.range len).map f, ⟨some a, cap, ?_, ?_, ?_, ?_, ?_⟩, ?_, ?_⟩
      · rw [List.length_map, List.length_range]
      · rw [List.length_map, List.length_range]; exact hl
      · rfl
      · rw [List.length_map, List.length_range]; unfold maxLen at hm; omega
      · intro _
        refine ⟨a, rfl, fun j p hj => ?_⟩
        have hjl : j < len := by
          have := (List.getElem?_eq_some_iff.1 hj).1
          simpa using this
        have : p = f j := by
          rw [List.getElem?_map, List.getElem?_range hjl] at hj
          exact (Option.some.inj hj).symm
        subst this
        exact (hf j hjl).2
      · intro x hx
        obtain ⟨i, hi, rfl⟩ := List.mem_map.1 hx
        exact (hf i (List.mem_range.1 hi)).1
      · rw [List.length_map, List.length_range]
        exact Nat.le_trans (Nat.mul_le_mul_right _ (by omega)) hs1⟩

/-- A struct's fields from an offset on. -/
def OpensF (P : Program) {α : Type} (d : Kd α) (fs : List Field) (off : Nat) (good : α → Prop) : Prop :=
  ∀ {H : Type} {enc : TypeId × Value → H} {w : World} {base : Nat} {spare : Nat → Bool} {held : Bool} {fuel : Nat} {cs : List Value} {xs : List (DataW H × List MemPlace)},
    xs.length = fs.length → (∀ (i : Nat) (f : Field), fs[i]? = some f → DataW.trod enc P w base spare held fuel f.type ((cs.drop f.offset).take (P.cellsOf f.type)) = xs[i]?) →
    (DataW.weightsEach P (fs.map (·.type)) (xs.map (·.1))).all (· ≤ reachBytes) = true → ∃ x, d.K w x ((cs.drop off).take d.sz) ∧ good x
theorem OpensF.one {P : Program} {α : Type} {d : Kd α} {f : Field} {off : Nat} {good : α → Prop} (ho : Opens P d f.type good) (hf : f.offset = off) : OpensF P d [f] off good := by
  intro H enc w base spare held fuel cs xs hl h hs
  obtain ⟨x, rfl⟩ : ∃ x, xs = [x] := List.length_eq_one_iff.1 hl
  have h0 := h 0 f rfl
  rw [ho.cells, hf] at h0
  simp only [List.map_cons, List.map_nil, DataW.weightsEach, List.append_nil] at hs
  exact ho.out (D := x.1) (ps := x.2) h0 hs
theorem OpensF.cons {P : Program} {α β : Type} {a : Kd α} {b : Kd β} {f : Field} {fs : List Field} {off : Nat} {g1 : α → Prop} {g2 : β → Prop} (ho : Opens P a f.type g1) (hf : f.offset = off) (hr : OpensF P b fs (off + a.sz) g2) :
    OpensF P (Kd.pair a b) (f :: fs) off (fun x => g1 x.1 ∧ g2 x.2) := by
  intro H enc w base spare held fuel cs xs hl h hs
  match xs, hl with
  | x :: xs, hl =>
    have h0 := h 0 f rfl
    rw [ho.cells, hf] at h0
    simp only [List.map_cons, DataW.weightsEach, List.all_append, Bool.and_eq_true] at hs
    obtain ⟨p, hK, hg⟩ := ho.out (D := x.1) (ps := x.2) h0 hs.1
    obtain ⟨q, hK2, hg2⟩ := hr (by simpa using hl) (fun i f hi => h (i + 1) f hi) hs.2
    refine ⟨(p, q), ⟨_, _, ?_, hK, hK2⟩, hg, hg2⟩
    show (cs.drop off).take (a.sz + b.sz) = _
    rw [List.take_add, List.drop_drop]
theorem Opens.struct {P : Program} {α β : Type} {d : Kd α} {f : β → α} {g : α → β} {t : TypeId} {fs : List Field} {good : α → Prop} (ht : P.underlying t = some (.struct fs.toArray)) (hc : P.cellsOf t = d.sz) (hg : ∀ y, f (g y) = y) (ho : OpensF P d fs 0 good) :
    Opens P (Kd.iso d f) t (fun x => good (f x)) :=
  ⟨hc, fun {H enc w base spare held fuel cs D ps} h hs => by
    obtain ⟨xs, n, rfl, hx, hl, hxl, hi⟩ := DataW.trod_struct ht h
    injection hx with hD hP
    subst hD
    simp only [DataW.weights, ht] at hs
    obtain ⟨y, hK, hy⟩ := ho (cs := cs) (by simpa using hxl) (fun i f hf => hi i f (by simpa using hf)) hs
    rw [List.drop_zero, List.take_of_length_le (by rw [hl, hc]; exact Nat.le_refl _)] at hK
    refine ⟨g y, ?_, ?_⟩
    · show d.K w (f (g y)) cs
      rw [hg]; exact hK
    · rw [hg]; exact hy⟩
end Go.Proofs.Ytocdebfbpfmnnaa.Pr
namespace Go.Proofs.Ytocdebfbpfmnnaa.Pr
open Go.RowKit Go.WideShapes Go.Proofs.YtocdebfbpfmnnaaW.PrintWords Go.Proofs.YtocdebfbpfmnnaaW.PrintLast Go.Proofs.YtocdebfbpfmnnaaW.PrintMore
set_option linter.unusedVariables false
theorem wf_wf64 {x : Int} (h : (Lit.int .i64 x).wf = true) : wf64 x := by
  have hmin : IntKind.i64.min = -9223372036854775808 := rfl
  have hmax : IntKind.i64.max = 9223372036854775807 := rfl
  simp only [Lit.wf, Bool.and_eq_true, decide_eq_true_eq] at h
  unfold wf64
  omega
instance : Inhabited S85 := ⟨z85⟩
instance : Inhabited S79 := ⟨z79⟩
instance : Inhabited S90 := ⟨z90⟩
instance : Inhabited S77 := ⟨z77⟩
def gI (x : Int) : Prop := (Lit.int .i64 x).wf = true
def gU (x : Int) : Prop := (Lit.int .u32 x).wf = true
theorem o3 : Opens Try.prog (Kd.int .i64) 3 gI := Opens.int Try.underlying3 (by kernel_rfl)
theorem o55 : Opens Try.prog (Kd.int .u32) 55 gU := Opens.int Try.underlying55 (by kernel_rfl)
theorem b3 : Try.prog.bytesOf 3 = 8 := by kernel_rfl
theorem b85 : Try.prog.bytesOf 85 = 16 := by kernel_rfl
theorem b90 : Try.prog.bytesOf 90 = 96 := by kernel_rfl
theorem b77 : Try.prog.bytesOf 77 = 128 := by kernel_rfl
theorem b79 : Try.prog.bytesOf 79 = 16 := by kernel_rfl
theorem reach_is : reachBytes = 140737488351232 := by decide
theorem o22 : Opens Try.prog (Kd.slice 3 (Kd.int .i64)) 22 (fun xs => (∀ x ∈ xs, gI x) ∧ xs.length * Try.prog.bytesOf 3 ≤ reachBytes) := Opens.slice Try.underlying22 (by kernel_rfl) o3
theorem o85 : Opens Try.prog k85 85 (fun x => gU x.f0 ∧ gI x.f1) :=
  Opens.struct (g := fun y => ⟨y.1, y.2⟩) Try.underlying85 (by kernel_rfl) (fun _ => rfl) (OpensF.cons o55 rfl (OpensF.one o3 rfl))
theorem o72 : Opens Try.prog (Kd.slice 85 k85) 72 (fun xs => (∀ x ∈ xs, gU x.f0 ∧ gI x.f1) ∧ xs.length * Try.prog.bytesOf 85 ≤ reachBytes) := Opens.slice Try.underlying72 (by kernel_rfl) o85
theorem o79 : Opens Try.prog k79 79 (fun x => gI x.f0 ∧ gI x.f1) :=
  Opens.struct (g := fun y => ⟨y.1, y.2⟩) Try.underlying79 (by kernel_rfl) (fun _ => rfl) (OpensF.cons o3 rfl (OpensF.one o3 rfl))
theorem o23 : Opens Try.prog (Kd.slice 79 k79) 23 (fun xs => (∀ x ∈ xs, gI x.f0 ∧ gI x.f1) ∧ xs.length * Try.prog.bytesOf 79 ≤ reachBytes) := Opens.slice Try.underlying23 (by kernel_rfl) o79
def gL (xs : List Int) : Prop := (∀ x ∈ xs, gI x) ∧ xs.length * Try.prog.bytesOf 3 ≤ reachBytes
def gE (x : S74) : Prop := gI x.f0 ∧ gI x.f1 ∧ gI x.f2 ∧ gI x.f3 ∧ gU x.f4 ∧ gI x.f5 ∧ gI x.f6 ∧ ((∀ c ∈ x.f7, gU c.f0 ∧ gI c.f1) ∧ x.f7.length * Try.prog.bytesOf 85 ≤ reachBytes) ∧ gL x.f8
def gN (x : S90) : Prop := gI x.f0 ∧ gI x.f1 ∧ gI x.f2 ∧ gI x.f3 ∧ gI x.f4 ∧ gU x.f5 ∧ gL x.f6 ∧ gL x.f7
theorem o74' : Opens Try.prog k74 74 (fun x => gI x.f0 ∧ gI x.f1 ∧ gI x.f2 ∧ gI x.f3 ∧ gU x.f4 ∧ gI x.f5 ∧ gI x.f6 ∧ ((∀ c ∈ x.f7, gU c.f0 ∧ gI c.f1) ∧ x.f7.length * Try.prog.bytesOf 85 ≤ reachBytes) ∧ ((∀ y ∈ x.f8, gI y) ∧ x.f8.length * Try.prog.bytesOf 3 ≤ reachBytes)) :=
  by
  have h := Opens.struct (f := (fun x : S74 => (x.f0, x.f1, x.f2, x.f3, x.f4, x.f5, x.f6, x.f7, x.f8))) (g := fun y => (⟨y.1, y.2.1, y.2.2.1, y.2.2.2.1, y.2.2.2.2.1, y.2.2.2.2.2.1, y.2.2.2.2.2.2.1, y.2.2.2.2.2.2.2.1, y.2.2.2.2.2.2.2.2⟩ : S74)) Try.underlying74 (by kernel_rfl) (fun _ => rfl)
    (OpensF.cons o3 rfl (OpensF.cons o3 rfl (OpensF.cons o3 rfl (OpensF.cons o3 rfl (OpensF.cons o55 rfl (OpensF.cons o3 rfl (OpensF.cons o3 rfl (OpensF.cons o72 rfl (OpensF.one o22 rfl)))))))))
  exact h
theorem o74 : Opens Try.prog k74 74 gE := o74'
theorem o90' : Opens Try.prog k90 90 (fun x => gI x.f0 ∧ gI x.f1 ∧ gI x.f2 ∧ gI x.f3 ∧ gI x.f4 ∧ gU x.f5 ∧ ((∀ y ∈ x.f6, gI y) ∧ x.f6.length * Try.prog.bytesOf 3 ≤ reachBytes) ∧ ((∀ y ∈ x.f7, gI y) ∧ x.f7.length * Try.prog.bytesOf 3 ≤ reachBytes)) :=
  by
  have h := Opens.struct (f := (fun x : S90 => (x.f0, x.f1, x.f2, x.f3, x.f4, x.f5, x.f6, x.f7))) (g := fun y => (⟨y.1, y.2.1, y.2.2.1, y.2.2.2.1, y.2.2.2.2.1, y.2.2.2.2.2.1, y.2.2.2.2.2.2.1, y.2.2.2.2.2.2.2⟩ : S90)) Try.underlying90 (by kernel_rfl) (fun _ => rfl)
    (OpensF.cons o3 rfl (OpensF.cons o3 rfl (OpensF.cons o3 rfl (OpensF.cons o3 rfl (OpensF.cons o3 rfl (OpensF.cons o55 rfl (OpensF.cons o22 rfl (OpensF.one o22 rfl))))))))
  exact h
theorem o90 : Opens Try.prog k90 90 gN := o90'
theorem o75 : Opens Try.prog (Kd.slice 90 k90) 75 (fun xs => (∀ x ∈ xs, gN x) ∧ xs.length * Try.prog.bytesOf 90 ≤ reachBytes) := Opens.slice Try.underlying75 (by kernel_rfl) o90
def gB (x : S77) : Prop := ((∀ y ∈ x.f0, gN y) ∧ x.f0.length * Try.prog.bytesOf 90 ≤ reachBytes) ∧ gE x.f1
theorem o77' : Opens Try.prog k77 77 (fun x => ((∀ y ∈ x.f0, gN y) ∧ x.f0.length * Try.prog.bytesOf 90 ≤ reachBytes) ∧ gE x.f1) :=
  by
  have h := Opens.struct (f := (fun x : S77 => (x.f0, x.f1))) (g := fun y => (⟨y.1, y.2⟩ : S77)) Try.underlying77 (by kernel_rfl) (fun _ => rfl) (OpensF.cons o75 rfl (OpensF.one o74 rfl))
  exact h
theorem o77 : Opens Try.prog k77 77 gB := o77'
theorem o24 : Opens Try.prog (Kd.slice 77 k77) 24 (fun xs => (∀ x ∈ xs, gB x) ∧ xs.length * Try.prog.bytesOf 77 ≤ reachBytes) := Opens.slice Try.underlying24 (by kernel_rfl) o77
def gG (x : S26) : Prop := gL x.f0 ∧ gI x.f1 ∧ ((∀ y ∈ x.f2, gI y.f0 ∧ gI y.f1) ∧ x.f2.length * Try.prog.bytesOf 79 ≤ reachBytes) ∧ (∀ b ∈ x.f3, gB b) ∧ x.f3.length * Try.prog.bytesOf 77 ≤ reachBytes
theorem o26' : Opens Try.prog k26 26 (fun x => ((∀ y ∈ x.f0, gI y) ∧ x.f0.length * Try.prog.bytesOf 3 ≤ reachBytes) ∧ gI x.f1 ∧ ((∀ y ∈ x.f2, gI y.f0 ∧ gI y.f1) ∧ x.f2.length * Try.prog.bytesOf 79 ≤ reachBytes) ∧ ((∀ b ∈ x.f3, gB b) ∧ x.f3.length * Try.prog.bytesOf 77 ≤ reachBytes)) :=
  by
  have h := Opens.struct (f := (fun x : S26 => (x.f0, x.f1, x.f2, x.f3))) (g := fun y => (⟨y.1, y.2.1, y.2.2.1, y.2.2.2⟩ : S26)) Try.underlying26 (by kernel_rfl) (fun _ => rfl) (OpensF.cons o22 rfl (OpensF.cons o3 rfl (OpensF.cons o23 rfl (OpensF.one o24 rfl))))
  exact h
theorem o26 : Opens Try.prog k26 26 gG := o26'
theorem gB_good {L : List S77} (h : ∀ b ∈ L, gB b) : GoodB L := by
  refine ⟨fun b hb => ?_, fun b hb => ?_, fun b hb t ht => ?_⟩
  · obtain ⟨⟨h1, h2⟩, h3⟩ := h b hb
    obtain ⟨_, _, _, _, _, _, _, ⟨_, h7⟩, _, h8⟩ := h3
    rw [b90, reach_is] at h2
    rw [b85, reach_is] at h7
    rw [b3, reach_is] at h8
    refine ⟨by omega, fun x hx => ?_, by omega, by omega⟩
    obtain ⟨_, _, _, _, _, _, ⟨_, h9⟩, _, h10⟩ := h1 x hx
    rw [b3, reach_is] at h9 h10
    omega
  · obtain ⟨_, h3⟩ := h b hb
    obtain ⟨_, _, _, _, _, _, _, _, _, h8⟩ := h3
    rw [b3, reach_is] at h8
    unfold slimB
    omega
  · obtain ⟨_, h3⟩ := h b hb
    obtain ⟨_, _, _, _, _, h5, h6, ⟨h7, _⟩, h8, _⟩ := h3
    unfold targetsOf at ht
    split at ht
    · rcases List.mem_cons.1 ht with rfl | ht
      · exact wf_wf64 h5
      · rw [List.mem_singleton.1 ht]; exact wf_wf64 h6
    · split at ht
      · rcases List.mem_cons.1 ht with rfl | ht
        · exact wf_wf64 h5
        · obtain ⟨c, hc, rfl⟩ := List.mem_map.1 (List.mem_reverse.1 ht)
          exact wf_wf64 (h7 c hc).2
      · split at ht
        · rcases List.mem_cons.1 ht with rfl | ht
          · exact wf_wf64 h5
          · exact wf_wf64 (h8 t (List.mem_reverse.1 ht))
        · split at ht
          · rw [List.mem_singleton.1 ht]; exact wf_wf64 h5
          · cases ht
set_option maxRecDepth 100000 in
/-- A graph by value: the value written out, and its lists. -/
theorem open_graph {H : Type} {enc : TypeId × Value → H} {w : World} {base : Nat} {spare : Nat → Bool} {held : Bool} {r : Reach} {b0 : Nat} {v : Value} {d : DataW H} {ps : List MemPlace} (hv : Value.okWide Try.prog w r b0 26 v)
    (h : DataW.Trod enc Try.prog w base spare held 26 v d ps) (hs : (d.weights Try.prog 26).all (· ≤ reachBytes) = true) :
    ∃ (A0 : Option Addr) (c0 : Nat) (A2 : Option Addr) (c2 : Nat) (A3 : Option Addr) (c3 : Nat) (x : S26), v = .agg #[.slice A0 x.f0.length c0, .int .i64 x.f1, .slice A2 x.f2.length c2, .slice A3 x.f3.length c3] ∧
      x.f0.length ≤ c0 ∧ Kd.C (Kd.int .i64) w A0 x.f0.length x.f0 ∧ x.f2.length ≤ c2 ∧ Kd.C k79 w A2 x.f2.length x.f2 ∧ x.f3.length ≤ c3 ∧ Kd.C k77 w A3 x.f3.length x.f3 ∧ x.f0.length * 8 ≤ 140737488355328 ∧ x.f2.length * 16 ≤ 140737488355328 ∧ GoodB x.f3 := by
  obtain ⟨cs, rfl, hsz⟩ := okWide_struct Try.underlying26 hv
  obtain ⟨fuel, hf⟩ := h
  obtain ⟨x, hK, hg⟩ := o26.out hf hs
  obtain ⟨A0, c0, A2, c2, A3, c3, hcs, l0, g0, l2, g2, l3, g3⟩ := k26_open hK
  obtain ⟨⟨_, h0⟩, _, ⟨_, h2⟩, hb, _⟩ := hg
  rw [b3, reach_is] at h0
  rw [b79, reach_is] at h2
  refine ⟨A0, c0, A2, c2, A3, c3, x, ?_, l0, g0, l2, g2, l3, g3, by omega, by omega, gB_good hb⟩
  have : cs.toList = [.slice A0 x.f0.length c0, .int .i64 x.f1, .slice A2 x.f2.length c2, .slice A3 x.f3.length c3] := hcs
  rw [show cs = cs.toList.toArray from (Array.toArray_toList (xs := cs)).symm, this]
set_option maxRecDepth 100000 in
/-- A list of numbers. -/
theorem open_list {H : Type} {enc : TypeId × Value → H} {w : World} {base : Nat} {spare : Nat → Bool} {held : Bool} {r : Reach} {b0 : Nat} {v : Value} {d : DataW H} {ps : List MemPlace} (hv : Value.okWide Try.prog w r b0 22 v)
    (h : DataW.Trod enc Try.prog w base spare held 22 v d ps) (hs : (d.weights Try.prog 22).all (· ≤ reachBytes) = true) :
    ∃ (A : Option Addr) (c : Nat) (xs : List Int), v = .slice A xs.length c ∧ xs.length ≤ c ∧ Kd.C (Kd.int .i64) w A xs.length xs ∧ (∀ x ∈ xs, wf64 x) ∧ xs.length * 8 ≤ 140737488351232 := by
  obtain ⟨a, n, c, rfl⟩ := okWide_slice Try.underlying22 hv
  obtain ⟨fuel, hf⟩ := h
  obtain ⟨x, ⟨A, c', hcs, hl, hC⟩, hg, h2⟩ := o22.out hf hs
  rw [b3, reach_is] at h2
  have e : Value.slice a n c = .slice A x.length c' := by simpa [Value.cells] using hcs
  exact ⟨A, c', x, e, hl, hC, fun y hy => wf_wf64 (hg y hy), h2⟩
end Go.Proofs.Ytocdebfbpfmnnaa.Pr
