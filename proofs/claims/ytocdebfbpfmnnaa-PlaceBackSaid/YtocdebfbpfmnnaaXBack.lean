/- Plain law: an order, and the order that leads back. -/
import Derived.Test.YtocdebfbpfmnnaaXTurnA
import Derived.Test.YtocdebfbpfmnnaaXEdges
namespace Go.Proofs.Ytocdebfbpfmnnaa.Pr
open Go.RowKit Go.Proofs.YtocdebfbpfmnnaaW.PrintWords Go.Proofs.YtocdebfbpfmnnaaW.PrintLast Go.Proofs.YtocdebfbpfmnnaaW.PrintMore
set_option linter.unusedVariables false

def reorderL (l3 : List S77) (at_ order : List Int) : List S77 := order.map fun b => turnB at_ (rd_T77 l3 b)
/-- The whole numbers below n. -/
def ints (n : Nat) : List Int := (List.range n).map fun i : Nat => (i : Int)
theorem mem_ints {n : Nat} {x : Int} : x ∈ ints n ↔ inL n x := by
  unfold ints inL
  rw [List.mem_map]
  constructor
  · rintro ⟨i, hi, rfl⟩
    have := List.mem_range.1 hi
    omega
  · rintro ⟨h0, h1⟩
    exact ⟨x.toNat, List.mem_range.2 (by omega), by omega⟩
theorem nodup_ints (n : Nat) : (ints n).Nodup := by
  unfold ints
  refine List.pairwise_map.2 (List.nodup_range.imp fun h e => h ?_)
  omega
theorem length_ints (n : Nat) : (ints n).length = n := by simp [ints]
/-- An order of n blocks: a permutation, the first one ahead. -/
def IsOrder (n : Nat) (order : List Int) : Prop := order.Perm (ints n) ∧ rd order 0 = 0
theorem IsOrder.length {n : Nat} {order : List Int} (h : IsOrder n order) : order.length = n := by rw [h.1.length_eq, length_ints]
theorem IsOrder.mem {n : Nat} {order : List Int} (h : IsOrder n order) {x : Int} : x ∈ order ↔ inL n x := by rw [h.1.mem_iff, mem_ints]
theorem IsOrder.nodup {n : Nat} {order : List Int} (h : IsOrder n order) : order.Nodup := h.1.nodup_iff.2 (nodup_ints n)
theorem rd_at {xs : List Int} {j : Nat} (hj : j < xs.length) : rd xs (j : Int) = xs[j] := by
  unfold rd; rw [Int.toNat_natCast, List.getD_eq_getElem?_getD, List.getElem?_eq_getElem hj]; rfl
theorem rd_mem {xs : List Int} {i : Int} (h0 : 0 ≤ i) (h1 : i < (xs.length : Int)) : rd xs i ∈ xs := by
  obtain ⟨j, rfl⟩ : ∃ j : Nat, i = j := ⟨i.toNat, by omega⟩
  rw [rd_at (by omega)]; exact List.getElem_mem _
theorem rd_replicate (n : Nat) (v : Int) {b : Int} (h : b.toNat < n) : rd (List.replicate n v) b = v := by
  unfold rd; rw [List.getD_eq_getElem?_getD, List.getElem?_replicate, if_pos h]; rfl
theorem scan_ok : ∀ (bs at_ : List Int) (i : Nat), bs.Nodup → (∀ b ∈ bs, inL at_.length b ∧ rd at_ b < 0) →
    ∃ r, scan at_ i bs = some r ∧ r.length = at_.length ∧ (∀ (j : Nat) (h : j < bs.length), rd r bs[j] = (i : Int) + j) ∧ ∀ b, 0 ≤ b → b ∉ bs → rd r b = rd at_ b
  | [], at_, i, _, _ => ⟨at_, rfl, rfl, fun j h => absurd h (Nat.not_lt_zero _), fun _ _ _ => rfl⟩
  | b :: bs, at_, i, hn, hb => by
    obtain ⟨hn1, hn2⟩ := List.nodup_cons.1 hn
    obtain ⟨⟨hb0, hb1⟩, hb2⟩ := hb b List.mem_cons_self
    have hlt : b.toNat < at_.length := by omega
    have hnb : ¬ badAt at_ b := by unfold badAt; omega
    obtain ⟨r, h1, h2, h3, h4⟩ := scan_ok bs (at_.set b.toNat (i : Int)) (i + 1) hn2 (fun c hc => by
      obtain ⟨hc0, hc1⟩ := hb c (List.mem_cons_of_mem _ hc)
      refine ⟨by rw [List.length_set]; exact hc0, ?_⟩
      rw [rd_set hlt, if_neg]
      · exact hc1
      · intro e
        have : c = b := by have := hc0.1; omega
        exact hn1 (this ▸ hc))
    rw [List.length_set] at h2
    refine ⟨r, ?_, h2, ?_, ?_⟩
    · rw [scan, if_neg hnb]; exact h1
    · intro j hj
      cases j with
      | zero =>
        show rd r b = (i : Int) + (0 : Nat)
        rw [h4 b hb0 hn1, rd_set hlt, if_pos rfl]; simp
      | succ j =>
        have := h3 j (by simpa using hj)
        have hj' : j < bs.length := by simpa using hj
        show rd r (bs[j]'hj') = _
        rw [this]; omega
    · intro c hc hcm
      rw [h4 c hc (fun h => hcm (List.mem_cons_of_mem _ h)), rd_set hlt, if_neg]
      intro e
      have : c = b := by omega
      exact hcm (this ▸ List.mem_cons_self)
theorem ext_rd {a b : List Int} (hl : a.length = b.length) (h : ∀ j : Nat, j < a.length → rd a (j : Int) = rd b (j : Int)) : a = b := by
  refine List.ext_getElem hl fun i h1 h2 => ?_
  have := h i h1
  rwa [rd_at h1, rd_at h2] at this
/-- What leads back. -/
structure Leads (n : Nat) (order at_ : List Int) : Prop where
  lo : order.length = n
  la : at_.length = n
  there : ∀ i, inL n i → inL n (rd order i) ∧ rd at_ (rd order i) = i
  back : ∀ b, inL n b → inL n (rd at_ b) ∧ rd order (rd at_ b) = b
theorem Leads.symm {n : Nat} {order at_ : List Int} (h : Leads n order at_) : Leads n at_ order := ⟨h.la, h.lo, h.back, h.there⟩
theorem Leads.unique {n : Nat} {order a b : List Int} (ha : Leads n order a) (hb : Leads n order b) : a = b := by
  refine ext_rd (ha.la.trans hb.la.symm) fun j hj => ?_
  rw [ha.la] at hj
  have hj' : inL n (j : Int) := ⟨by omega, by omega⟩
  obtain ⟨h1, h2⟩ := ha.back _ hj'
  have h3 := (hb.there _ h1).2
  rw [h2] at h3
  exact h3.symm
theorem Leads.nodup {n : Nat} {order at_ : List Int} (h : Leads n order at_) : order.Nodup := by
  refine List.nodup_iff_pairwise_ne.2 (List.pairwise_iff_getElem.2 fun i j hi hj hij e => ?_)
  have h1 := (h.there (i : Int) ⟨by omega, by have := h.lo; omega⟩).2
  have h2 := (h.there (j : Int) ⟨by omega, by have := h.lo; omega⟩).2
  rw [rd_at hi] at h1
  rw [rd_at hj, ← e, h1] at h2
  omega
theorem Leads.order {n : Nat} {order at_ : List Int} (h : Leads n order at_) (h0 : rd order 0 = 0) : IsOrder n order := by
  refine ⟨(List.perm_ext_iff_of_nodup h.nodup (nodup_ints n)).2 fun x => ?_, h0⟩
  rw [mem_ints]
  constructor
  · intro hx
    obtain ⟨j, hj, rfl⟩ := List.mem_iff_getElem.1 hx
    have := (h.there (j : Int) ⟨by omega, by have := h.lo; omega⟩).1
    rwa [rd_at hj] at this
  · intro hx
    obtain ⟨h1, h2⟩ := h.back x hx
    rw [← h2]
    exact rd_mem h1.1 (by have := h.lo; have := h1.2; omega)
theorem IsOrder.scan {n : Nat} {order : List Int} (h : IsOrder n order) : ∃ at_, Pr.scan (List.replicate n (-1)) 0 order = some at_ ∧ Leads n order at_ := by
  obtain ⟨r, h1, h2, h3, _⟩ := scan_ok order (List.replicate n (-1)) 0 h.nodup (fun b hb => by
    have hb' := h.mem.1 hb
    refine ⟨by rw [List.length_replicate]; exact hb', ?_⟩
    rw [rd_replicate _ _ (by have := hb'.1; have := hb'.2; omega)]; decide)
  rw [List.length_replicate] at h2
  have hl := h.length
  have there : ∀ i, inL n i → inL n (rd order i) ∧ rd r (rd order i) = i := by
    intro i hi
    obtain ⟨j, rfl⟩ : ∃ j : Nat, i = j := ⟨i.toNat, by have := hi.1; omega⟩
    have hj : j < order.length := by have := hi.2; omega
    refine ⟨h.mem.1 (rd_mem hi.1 (by have := hi.2; omega)), ?_⟩
    rw [rd_at hj, h3 j hj]; omega
  refine ⟨r, h1, hl, h2, there, fun b hb => ?_⟩
  obtain ⟨j, hj, he⟩ := List.mem_iff_getElem.1 (h.mem.2 hb)
  have h4 := h3 j hj
  rw [he] at h4
  have hjn : inL n (j : Int) := ⟨by omega, by omega⟩
  have e4 : rd r b = (j : Int) := by omega
  rw [e4]
  exact ⟨hjn, by rw [rd_at hj]; exact he⟩
theorem scan_leads {n : Nat} {order at_ : List Int} (h : Leads n order at_) (h0 : rd order 0 = 0) : scan (List.replicate n (-1)) 0 order = some at_ := by
  obtain ⟨r, h1, h2⟩ := (h.order h0).scan
  rw [h1, h.unique h2]

/-- All places to which an end leads are blocks. -/
def okEnd (n : Nat) (e : S74) : Prop := ∀ t ∈ targetsOf e, inL n t
theorem okEnd_turn {n : Nat} {e : S74} (h : okEnd n e) : okTurn n e := by
  unfold okEnd targetsOf at h
  unfold okTurn
  refine ⟨fun hk => ?_, fun hk => ?_, fun hk c hc => ?_, fun hk t ht => ?_⟩
  · rcases hk with hk | hk | hk | hk
    · rw [if_neg (by omega), if_neg (by omega), if_neg (by omega), if_pos hk] at h; exact h _ List.mem_cons_self
    · rw [if_pos hk] at h; exact h _ List.mem_cons_self
    · rw [if_neg (by omega), if_pos hk] at h; exact h _ List.mem_cons_self
    · rw [if_neg (by omega), if_neg (by omega), if_pos hk] at h; exact h _ List.mem_cons_self
  · rw [if_pos hk] at h; exact h _ (List.mem_cons_of_mem _ List.mem_cons_self)
  · rw [if_neg (by omega), if_pos hk] at h
    exact h _ (List.mem_cons_of_mem _ (List.mem_reverse.2 (List.mem_map.2 ⟨c, hc, rfl⟩)))
  · rw [if_neg (by omega), if_neg (by omega), if_pos hk] at h
    exact h _ (List.mem_cons_of_mem _ (List.mem_reverse.2 ht))
theorem targets_turn (at_ : List Int) (e : S74) : targetsOf (turnE at_ e) = (targetsOf e).map (rd at_) := by
  have e7 : (fun x : S85 => x.f1) ∘ turnC at_ = rd at_ ∘ fun x : S85 => x.f1 := rfl
  have e8 : atL at_ = rd at_ := rfl
  by_cases h2 : e.f0 = 2
  · simp [targetsOf, turnE, h2, atL]
  · by_cases h3 : e.f0 = 3
    · simp [targetsOf, turnE, h3, atL, List.map_reverse, e7]
    · by_cases h4 : e.f0 = 4
      · simp [targetsOf, turnE, h4, atL, List.map_reverse, e8]
      · by_cases h1 : e.f0 = 1
        · simp [targetsOf, turnE, h1, atL]
        · simp [targetsOf, turnE, h1, h2, h3, h4]
theorem turn_back {n : Nat} {order at_ : List Int} (h : Leads n order at_) {e : S74} (he : okEnd n e) : turnE order (turnE at_ e) = e := by
  obtain ⟨h5, h6, h7, h8⟩ := okEnd_turn he
  obtain ⟨f0, f1, f2, f3, f4, f5, f6, f7, f8⟩ := e
  simp only at h5 h6 h7 h8
  unfold turnE
  simp only [atL, S74.mk.injEq, true_and]
  refine ⟨?_, ?_, ?_, ?_⟩
  · split
    · rename_i hk; exact (h.back _ (h5 hk)).2
    · rfl
  · split
    · rename_i hk; exact (h.back _ (h6 hk)).2
    · rfl
  · split
    · rename_i hk
      rw [List.map_map]
      conv => rhs; rw [← List.map_id f7]
      refine List.map_congr_left fun c hc => ?_
      simp only [Function.comp, turnC, atL, id]
      rw [(h.back _ (h7 hk c hc)).2]
    · rfl
  · split
    · rename_i hk
      rw [List.map_map]
      conv => rhs; rw [← List.map_id f8]
      refine List.map_congr_left fun t ht => ?_
      simp only [Function.comp, atL, id]
      exact (h.back _ (h8 hk t ht)).2
    · rfl
theorem rdB {l : List S77} {j : Nat} (hj : j < l.length) : rd_T77 l (j : Int) = l[j] := by
  unfold rd_T77; rw [Int.toNat_natCast, List.getD_eq_getElem?_getD, List.getElem?_eq_getElem hj]; rfl
theorem rdB_mem {l : List S77} {i : Int} (h : inL l.length i) : rd_T77 l i ∈ l := by
  obtain ⟨j, rfl⟩ : ∃ j : Nat, i = j := ⟨i.toNat, by have := h.1; omega⟩
  rw [rdB (by have := h.2; omega)]; exact List.getElem_mem _
theorem length_reorderL (l3 : List S77) (at_ order : List Int) : (reorderL l3 at_ order).length = order.length := by simp [reorderL]
theorem rd_reorderL {l3 : List S77} {at_ order : List Int} {i : Int} (h : inL order.length i) : rd_T77 (reorderL l3 at_ order) i = turnB at_ (rd_T77 l3 (rd order i)) := by
  obtain ⟨j, rfl⟩ : ∃ j : Nat, i = j := ⟨i.toNat, by have := h.1; omega⟩
  have hj : j < order.length := by have := h.2; omega
  rw [rdB (by rw [length_reorderL]; exact hj)]
  unfold reorderL
  rw [List.getElem_map, rd_at hj]
theorem reorder_back {l3 : List S77} {order at_ : List Int} (h : Leads l3.length order at_) (hok : ∀ b ∈ l3, okEnd l3.length b.f1) : reorderL (reorderL l3 at_ order) order at_ = l3 := by
  refine List.ext_getElem (by rw [length_reorderL]; exact h.la) fun i h1 h2 => ?_
  have hi : inL l3.length (i : Int) := ⟨by omega, by omega⟩
  obtain ⟨hb1, hb2⟩ := h.back _ hi
  rw [← rdB h1, ← rdB h2, rd_reorderL (by rw [h.la]; exact hi), rd_reorderL (by rw [h.lo]; exact hb1), hb2]
  have hm := hok _ (rdB_mem hi)
  unfold turnB
  simp only
  rw [turn_back h hm]
theorem okEnd_reorder {l3 : List S77} {order at_ : List Int} (h : Leads l3.length order at_) (hok : ∀ b ∈ l3, okEnd l3.length b.f1) : ∀ b ∈ reorderL l3 at_ order, okEnd l3.length b.f1 := by
  intro b hb
  unfold reorderL at hb
  obtain ⟨c, hc, rfl⟩ := List.mem_map.1 hb
  obtain ⟨j, hj, rfl⟩ := List.mem_iff_getElem.1 hc
  have h1 := (h.there (j : Int) ⟨by omega, by have := h.lo; omega⟩).1
  rw [rd_at hj] at h1
  intro t ht
  have ht' : t ∈ targetsOf (turnE at_ (rd_T77 l3 order[j]).f1) := ht
  rw [targets_turn] at ht'
  obtain ⟨s, hs, rfl⟩ := List.mem_map.1 ht'
  exact (h.back _ (hok _ (rdB_mem h1) s hs)).1
theorem nextB_mem {b : S77} {x : Int} : x ∈ nextB b ↔ x ∈ targetsOf b.f1 := by
  unfold nextB nextL
  rw [(List.mergeSort_perm _ _).mem_iff, mem_dedup]
theorem walks_iff {n : Nat} {l3 : List S77} : walksL n l3 = true ↔ ∀ b ∈ l3, okEnd n b.f1 := by
  unfold walksL
  rw [List.all_eq_true]
  refine forall_congr' fun b => forall_congr' fun hb => ?_
  rw [Bool.not_eq_true', List.any_eq_false]
  constructor
  · intro h t ht
    have := h t (nextB_mem.2 ht)
    simp only [outB, Bool.or_eq_true, decide_eq_true_eq, not_or] at this
    unfold inL; omega
  · intro h t ht
    have := h t (nextB_mem.1 ht)
    unfold inL at this
    simp only [outB, Bool.or_eq_true, decide_eq_true_eq, not_or]; omega
end Go.Proofs.Ytocdebfbpfmnnaa.Pr
