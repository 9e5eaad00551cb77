/- Plain lemmas for graph.Next: a sorted list without repeats out of a list of block numbers; what a map's datum has for keys. -/
import Derived.Lib.SlKeysI
import Derived.Maps.Own
namespace Go.Proofs.Ytocdebfbpfmnnaa.Pr
open Go.RowKit Go.Maps

/-- Without repeats. -/
def dedup : List Int → List Int
  | [] => []
  | x :: l => if x ∈ l then dedup l else x :: dedup l
theorem mem_dedup {x : Int} : ∀ {l : List Int}, x ∈ dedup l ↔ x ∈ l
  | [] => by simp [dedup]
  | y :: l => by
    simp only [dedup]
    split
    · rw [mem_dedup]
      constructor
      · exact fun h => List.mem_cons_of_mem _ h
      · intro h
        rcases List.mem_cons.1 h with rfl | h
        · assumption
        · exact h
    · rw [List.mem_cons, List.mem_cons, mem_dedup]
theorem nodup_dedup : ∀ l : List Int, (dedup l).Nodup
  | [] => by simp [dedup]
  | y :: l => by
    simp only [dedup]
    split
    · exact nodup_dedup l
    · exact List.nodup_cons.2 ⟨by rw [mem_dedup]; assumption, nodup_dedup l⟩
/-- Rising, each once. -/
def nextL (ks : List Int) : List Int := (dedup ks).mergeSort fun x y => decide (x ≤ y)

theorem perm_insert {H : Type} (a : Lit × DataW H) : ∀ l, (DataW.insert a l).Perm (a :: l)
  | [] => List.Perm.refl _
  | y :: l => by
    simp only [DataW.insert]
    split
    · exact List.Perm.refl _
    · exact ((perm_insert a l).cons y).trans (List.Perm.swap a y l)

/-- The datum of a map whose keys are just these numbers. -/
def KeysOf {H : Type} (D : DataW H) (ks : List Int) : Prop :=
  ∃ es : List (Lit × DataW H), D = .map es ∧ (es.map fun p => p.1).Nodup ∧ (∀ p ∈ es, ∃ x, p.1 = Lit.int .i64 x) ∧ ∀ x, (Lit.int .i64 x) ∈ (es.map fun p => p.1) ↔ x ∈ ks
theorem KeysOf.nil {H : Type} : KeysOf (.map [] : DataW H) [] := ⟨[], rfl, by simp, by simp, by simp⟩
theorem KeysOf.put {H : Type} {D : DataW H} {ks : List Int} (h : KeysOf D ks) (x : Int) (d : DataW H) : KeysOf (D.put (.int .i64 x) d) (x :: ks) := by
  obtain ⟨es, rfl, hn, hk, hm⟩ := h
  refine ⟨_, rfl, ?_, ?_, ?_⟩
  · rw [((perm_insert _ _).map _).nodup_iff, List.map_cons, List.nodup_cons]
    refine ⟨?_, (List.Sublist.map _ List.filter_sublist).nodup hn⟩
    intro hin
    obtain ⟨p, hp, he⟩ := List.mem_map.1 hin
    have := (List.mem_filter.1 hp).2
    rw [he] at this
    simp [Lit.sameKey] at this
  · intro p hp
    rcases List.mem_cons.1 ((perm_insert _ _).mem_iff.1 hp) with rfl | hp
    · exact ⟨x, rfl⟩
    · exact hk p (List.mem_filter.1 hp).1
  · intro y
    rw [((perm_insert _ _).map _).mem_iff, List.map_cons, List.mem_cons, List.mem_cons, ← hm y]
    constructor
    · rintro (h | h)
      · exact .inl (by injection h)
      · obtain ⟨p, hp, he⟩ := List.mem_map.1 h
        exact .inr (List.mem_map.2 ⟨p, (List.mem_filter.1 hp).1, he⟩)
    · rintro (rfl | h)
      · exact .inl rfl
      · by_cases hy : y = x
        · exact .inl (by rw [hy])
        · obtain ⟨p, hp, he⟩ := List.mem_map.1 h
          refine .inr (List.mem_map.2 ⟨p, List.mem_filter.2 ⟨hp, ?_⟩, he⟩)
          rw [he]
          simp [Lit.sameKey, hy]
theorem KeysOf.size {H : Type} {D : DataW H} {ks : List Int} (h : KeysOf D ks) : ∃ es, D = .map es := ⟨h.choose, h.choose_spec.1⟩
theorem KeysOf.congr {H : Type} {D : DataW H} {ks ks' : List Int} (h : KeysOf D ks) (hm : ∀ x, x ∈ ks ↔ x ∈ ks') : KeysOf D ks' := by
  obtain ⟨es, rfl, hn, hk, h⟩ := h
  exact ⟨es, rfl, hn, hk, fun x => (h x).trans (hm x)⟩
theorem KeysOf.perm {H : Type} {D : DataW H} {ks : List Int} (h : KeysOf D ks) : (intKeys D).Perm (dedup ks) := by
  obtain ⟨es, rfl, hn, hk, hm⟩ := h
  have hi : ∀ l : List (Lit × DataW H), (∀ p ∈ l, ∃ x, p.1 = Lit.int .i64 x) → (l.map fun p => p.1) = (intKeys (.map l)).map fun x => Lit.int .i64 x := by
    intro l hl
    simp only [intKeys, List.map_map]
    refine List.map_congr_left fun p hp => ?_
    obtain ⟨x, hx⟩ := hl p hp
    simp [hx, intOf]
  have he := hi es hk
  have hnd : (intKeys (.map es)).Nodup := by
    rw [he] at hn
    exact (List.pairwise_map.1 hn).imp fun h e => h (by rw [e])
  refine (List.perm_ext_iff_of_nodup hnd (nodup_dedup _)).2 fun x => ?_
  rw [mem_dedup, ← hm x, he, List.mem_map]
  constructor
  · exact fun h => ⟨x, h, rfl⟩
  · rintro ⟨y, hy, e⟩
    injection e with _ e
    exact e ▸ hy
theorem KeysOf.sorted {H : Type} {D : DataW H} {ks ss : List Int} (h : KeysOf D ks) (hp : ss.Perm (intKeys D)) : (ss.mergeSort fun x y => decide (x ≤ y)) = nextL ks := mergeSort_of_perm_i (hp.trans h.perm)
theorem length_dedup : ∀ l : List Int, (dedup l).length ≤ l.length
  | [] => by simp [dedup]
  | y :: l => by
    simp only [dedup]
    have := length_dedup l
    split <;> simp <;> omega
theorem KeysOf.length {H : Type} {D : DataW H} {ks : List Int} (h : KeysOf D ks) : Maps.size D ≤ ks.length := by
  have h1 := h.perm.length_eq
  obtain ⟨es, rfl, _⟩ := h
  simp only [intKeys, List.length_map] at h1
  have := length_dedup ks
  simp only [Maps.size]
  omega

/-- Places where 64 bits of an int reach. -/
def wf64 (x : Int) : Prop := -9223372036854775808 ≤ x ∧ x ≤ 9223372036854775807
instance (x : Int) : Decidable (wf64 x) := by unfold wf64; exact inferInstance
theorem wf64_wf {x : Int} (h : wf64 x) : (Lit.int .i64 x).wf = true := by
  have hmin : IntKind.i64.min = -9223372036854775808 := rfl
  have hmax : IntKind.i64.max = 9223372036854775807 := rfl
  simp only [Lit.wf, Bool.and_eq_true, decide_eq_true_eq]
  unfold wf64 at h
  omega
end Go.Proofs.Ytocdebfbpfmnnaa.Pr
