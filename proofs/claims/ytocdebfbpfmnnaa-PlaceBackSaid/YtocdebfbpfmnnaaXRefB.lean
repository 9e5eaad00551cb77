/- Pure: the references' Next and Edges are what the program's are. -/
import Derived.Test.YtocdebfbpfmnnaaPr10
import Derived.Test.YtocdebfbpfmnnaaXSame
import Derived.Test.YtocdebfbpfmnnaaXBack
import Derived.Test.YtocdebfbpfmnnaaXCopy
import Derived.Test.YtocdebfbpfmnnaaPr59
import Derived.Test.YtocdebfbpfmnnaaXPlainB
namespace Go.Proofs.Ytocdebfbpfmnnaa.Pr
open Go.RowKit Go.Proofs.YtocdebfbpfmnnaaW.PrintWords Go.Proofs.YtocdebfbpfmnnaaW.PrintLast Go.Proofs.YtocdebfbpfmnnaaW.PrintMore
set_option linter.unusedVariables false

/-- Rising, each once: what nextL is. -/
theorem nextL_mem {l : List Int} {x : Int} : x ∈ nextL l ↔ x ∈ l := by
  unfold nextL; rw [(List.mergeSort_perm _ _).mem_iff, mem_dedup]
theorem nextL_nodup (l : List Int) : (nextL l).Nodup := by
  unfold nextL; exact (List.mergeSort_perm _ _).nodup_iff.2 (nodup_dedup _)
theorem nextL_lt (l : List Int) : (nextL l).Pairwise (· < ·) := by
  have h1 : (nextL l).Pairwise (fun a b => decide (a ≤ b) = true) := by
    unfold nextL
    exact List.pairwise_mergeSort (fun a b c h1 h2 => by simp only [decide_eq_true_eq] at *; omega) (fun a b => by simp only [Bool.or_eq_true, decide_eq_true_eq]; omega) _
  exact (h1.and (nextL_nodup l)).imp (fun h => by
    have h2 := h.1
    have h3 := h.2
    simp only [decide_eq_true_eq] at h2
    omega)
theorem rising_ext : ∀ {a b : List Int}, a.Pairwise (· < ·) → b.Pairwise (· < ·) → (∀ x, x ∈ a ↔ x ∈ b) → a = b
  | [], [], _, _, _ => rfl
  | [], y :: b, _, _, h => by have := (h y).2 List.mem_cons_self; cases this
  | x :: a, [], _, _, h => by have := (h x).1 List.mem_cons_self; cases this
  | x :: a, y :: b, ha, hb, h => by
    obtain ⟨ha1, ha2⟩ := List.pairwise_cons.1 ha
    obtain ⟨hb1, hb2⟩ := List.pairwise_cons.1 hb
    have hxy : x = y := by
      rcases List.mem_cons.1 ((h x).1 List.mem_cons_self) with e | hm
      · exact e
      · have h1 := hb1 x hm
        rcases List.mem_cons.1 ((h y).2 List.mem_cons_self) with e | hm2
        · exact e.symm
        · have h2 := ha1 y hm2
          omega
    subst hxy
    congr 1
    refine rising_ext ha2 hb2 fun z => ⟨fun hz => ?_, fun hz => ?_⟩
    · rcases List.mem_cons.1 ((h z).1 (List.mem_cons_of_mem _ hz)) with e | hm
      · have := ha1 z hz; omega
      · exact hm
    · rcases List.mem_cons.1 ((h z).2 (List.mem_cons_of_mem _ hz)) with e | hm
      · have := hb1 z hz; omega
      · exact hm
theorem nextL_congr {a b : List Int} (h : ∀ x, x ∈ a ↔ x ∈ b) : nextL a = nextL b :=
  rising_ext (nextL_lt a) (nextL_lt b) (fun x => by rw [nextL_mem, nextL_mem]; exact h x)
theorem length_nextL (l : List Int) : (nextL l).length ≤ l.length := by
  unfold nextL; rw [List.length_mergeSort]; exact length_dedup l

/-- May a number come next behind those that are laid? -/
def candB (x3 : List Int) (v : Int) : Bool := match x3.getLast? with | none => true | some y => decide (v > y)
def pickS (x3 : List Int) (s : Bool × Int) (v : Int) : Bool × Int := if candB x3 v = true then (if s.1 = true then (if v < s.2 then (true, v) else s) else (true, v)) else s
theorem rd_last {x3 : List Int} (h : x3 ≠ []) : x3.getLast? = some (rd x3 ((x3.length : Int) - 1)) := by
  have hl := List.length_pos_iff.2 h
  rw [List.getLast?_eq_getElem?]
  unfold rd
  rw [show ((x3.length : Int) - 1).toNat = x3.length - 1 by omega, List.getD_eq_getElem?_getD, List.getElem?_eq_getElem (show x3.length - 1 < x3.length by omega)]
  rfl
theorem rd_drop {l : List Int} {i : Nat} (h : i < l.length) : l.drop i = rd l (i : Int) :: l.drop (i + 1) := by
  rw [List.drop_eq_getElem_cons h, rd_at h]
theorem sorted_l1 (l x3 : List Int) (r : List Int) (hn : l.length ≤ 140737488355328) (h3 : x3.length ≤ 140737488355328) : ∀ (d i : Nat) (s : Bool × Int), i ≤ l.length → l.length - i = d →
    Ev (fun k => if ((l.drop i).foldl (pickS x3) s).1 = true then (if x3.length < 17592186044416 then switchbackref05_sorted.l0 k l (x3 ++ [((l.drop i).foldl (pickS x3) s).2]) else none) else some x3) r →
    Ev (fun k => switchbackref05_sorted.l1 k l x3 s.1 s.2 (i : Int)) r
  | 0, i, s, hi, hd, he => by
    obtain rfl : i = l.length := by omega
    rw [List.drop_length] at he
    refine Ev.step (fun k => ?_) he
    simp only [switchbackref05_sorted.l1, List.foldl_nil]
    rw [if_neg (by omega)]
    rfl
  | d + 1, i, s, hi, hd, he => by
    have hlt : i < l.length := by omega
    rw [rd_drop hlt, List.foldl_cons] at he
    have ih := sorted_l1 l x3 r hn h3 d (i + 1) (pickS x3 s (rd l (i : Int))) (by omega) (by omega) he
    rw [show ((i + 1 : Nat) : Int) = (i : Int) + 1 by omega] at ih
    refine Ev.step (fun k => ?_) ih
    simp only [switchbackref05_sorted.l1]
    rw [if_pos (by omega)]
    have h0i : (0 : Int) ≤ (i : Int) := by omega
    have hwi : wrap64 ((i : Int) + 1) = (i : Int) + 1 := wrap_up (n := l.length) (by omega) (by omega) hn
    by_cases h0 : x3 = []
    · subst h0
      have hlen : ((([] : List Int).length : Nat) : Int) = 0 := rfl
      have hc : candB [] (rd l (i : Int)) = true := rfl
      rw [if_pos hlen]
      by_cases hs1 : s.1 = true
      · by_cases hv : rd l (i : Int) < s.2
        · rw [show pickS [] s (rd l (i : Int)) = (true, rd l (i : Int)) by unfold pickS; rw [if_pos hc, if_pos hs1, if_pos hv], if_pos hs1, if_pos h0i, if_pos hv, hwi]
        · rw [show pickS [] s (rd l (i : Int)) = s by unfold pickS; rw [if_pos hc, if_pos hs1, if_neg hv], if_pos hs1, if_pos h0i, if_neg hv, hwi]
      · rw [show pickS [] s (rd l (i : Int)) = (true, rd l (i : Int)) by unfold pickS; rw [if_pos hc, if_neg hs1], if_neg hs1, if_pos h0i, hwi]
    · have hl := List.length_pos_iff.2 h0
      have hw : wrap64 ((x3.length : Int) - 1) = (x3.length : Int) - 1 := by unfold wrap64; omega
      rw [if_neg (by omega), hw, if_pos h0i, if_pos (by omega), if_pos (by omega)]
      by_cases hcc : rd l (i : Int) > rd x3 ((x3.length : Int) - 1)
      · have hc : candB x3 (rd l (i : Int)) = true := by unfold candB; rw [rd_last h0]; exact decide_eq_true hcc
        rw [if_pos hcc]
        by_cases hs1 : s.1 = true
        · by_cases hv : rd l (i : Int) < s.2
          · rw [show pickS x3 s (rd l (i : Int)) = (true, rd l (i : Int)) by unfold pickS; rw [if_pos hc, if_pos hs1, if_pos hv], if_pos hs1, if_pos hv, hwi]
          · rw [show pickS x3 s (rd l (i : Int)) = s by unfold pickS; rw [if_pos hc, if_pos hs1, if_neg hv], if_pos hs1, if_neg hv, hwi]
        · rw [show pickS x3 s (rd l (i : Int)) = (true, rd l (i : Int)) by unfold pickS; rw [if_pos hc, if_neg hs1], if_neg hs1, hwi]
      · have hcb : ¬ candB x3 (rd l (i : Int)) = true := by unfold candB; rw [rd_last h0]; simpa using hcc
        rw [if_neg hcc, show pickS x3 s (rd l (i : Int)) = s by unfold pickS; rw [if_neg hcb], hwi]
/-- What the round finds: the least that may come next. -/
theorem pick_spec (x3 : List Int) : ∀ (l : List Int) (s : Bool × Int), (s.1 = true → candB x3 s.2 = true) →
    let r := l.foldl (pickS x3) s
    (r.1 = true → candB x3 r.2 = true ∧ (s.1 = true ∧ r.2 = s.2 ∨ r.2 ∈ l) ∧ (s.1 = true → r.2 ≤ s.2) ∧ ∀ v ∈ l, candB x3 v = true → r.2 ≤ v) ∧ (r.1 = false → s.1 = false ∧ ∀ v ∈ l, candB x3 v = false)
  | [], s, hs => ⟨fun h => ⟨hs h, .inl ⟨h, rfl⟩, fun _ => Int.le_refl _, by simp⟩, fun h => ⟨h, by simp⟩⟩
  | v :: l, s, hs => by
    have hs' : (pickS x3 s v).1 = true → candB x3 (pickS x3 s v).2 = true := by
      unfold pickS
      split
      · rename_i hc
        split
        · split
          · exact fun _ => hc
          · exact hs
        · exact fun _ => hc
      · exact hs
    have ih := pick_spec x3 l (pickS x3 s v) hs'
    rw [List.foldl_cons]
    by_cases hc : candB x3 v = true
    · by_cases hs1 : s.1 = true
      · by_cases hv : v < s.2
        · have e : pickS x3 s v = (true, v) := by unfold pickS; rw [if_pos hc, if_pos hs1, if_pos hv]
          rw [e] at ih ⊢
          obtain ⟨h1, h2⟩ := ih
          refine ⟨fun h => ?_, fun h => by have := (h2 h).1; cases this⟩
          obtain ⟨a, b, c, d⟩ := h1 h
          have c' := c rfl
          simp only at c'
          refine ⟨a, .inr ?_, fun _ => by omega, fun u hu hcu => ?_⟩
          · rcases b with ⟨_, b⟩ | b
            · rw [b]; exact List.mem_cons_self
            · exact List.mem_cons_of_mem _ b
          · rcases List.mem_cons.1 hu with rfl | hu
            · exact c'
            · exact d u hu hcu
        · have e : pickS x3 s v = s := by unfold pickS; rw [if_pos hc, if_pos hs1, if_neg hv]
          rw [e] at ih ⊢
          obtain ⟨h1, h2⟩ := ih
          refine ⟨fun h => ?_, fun h => by have := (h2 h).1; rw [hs1] at this; cases this⟩
          obtain ⟨a, b, c, d⟩ := h1 h
          refine ⟨a, b.imp id (List.mem_cons_of_mem _), c, fun u hu hcu => ?_⟩
          rcases List.mem_cons.1 hu with rfl | hu
          · have := c hs1; omega
          · exact d u hu hcu
      · have e : pickS x3 s v = (true, v) := by unfold pickS; rw [if_pos hc, if_neg hs1]
        rw [e] at ih ⊢
        obtain ⟨h1, h2⟩ := ih
        refine ⟨fun h => ?_, fun h => by have := (h2 h).1; cases this⟩
        obtain ⟨a, b, c, d⟩ := h1 h
        have c' := c rfl
        simp only at c'
        refine ⟨a, .inr ?_, fun h => absurd h hs1, fun u hu hcu => ?_⟩
        · rcases b with ⟨_, b⟩ | b
          · rw [b]; exact List.mem_cons_self
          · exact List.mem_cons_of_mem _ b
        · rcases List.mem_cons.1 hu with rfl | hu
          · exact c'
          · exact d u hu hcu
    · have e : pickS x3 s v = s := by unfold pickS; rw [if_neg hc]
      rw [e] at ih ⊢
      obtain ⟨h1, h2⟩ := ih
      refine ⟨fun h => ?_, fun h => ⟨(h2 h).1, fun u hu => ?_⟩⟩
      · obtain ⟨a, b, c, d⟩ := h1 h
        refine ⟨a, b.imp id (List.mem_cons_of_mem _), c, fun u hu hcu => ?_⟩
        rcases List.mem_cons.1 hu with rfl | hu
        · exact absurd hcu hc
        · exact d u hu hcu
      · rcases List.mem_cons.1 hu with rfl | hu
        · simpa using hc
        · exact (h2 h).2 u hu
theorem cand_take {S : List Int} (hS : S.Pairwise (· < ·)) {j i : Nat} (hj : j ≤ S.length) (hi : i < S.length) : candB (S.take j) S[i] = true ↔ j ≤ i := by
  cases j with
  | zero => simp [candB]
  | succ j =>
    have hlt : j < S.length := by omega
    have hl : (S.take (j + 1)).getLast? = some S[j] := by
      rw [List.getLast?_eq_getElem?, List.length_take, Nat.min_eq_left hj, Nat.add_sub_cancel, List.getElem?_take, if_pos (by omega), List.getElem?_eq_getElem hlt]
    unfold candB
    rw [hl]
    simp only [decide_eq_true_eq]
    constructor
    · intro h
      rcases Nat.lt_or_ge j i with h1 | h1
      · exact h1
      · rcases Nat.lt_or_eq_of_le h1 with h2 | h2
        · have := List.pairwise_iff_getElem.1 hS i j hi hlt h2; omega
        · subst h2; omega
    · intro h
      exact List.pairwise_iff_getElem.1 hS j i hlt hi (by omega)
theorem sorted_l0 (l : List Int) (hn : l.length ≤ 17592186044415) : ∀ (d j : Nat), j ≤ (nextL l).length → (nextL l).length - j = d → Ev (fun k => switchbackref05_sorted.l0 k l ((nextL l).take j)) (nextL l) := by
  have hS := nextL_lt l
  have hSl := length_nextL l
  intro d
  induction d with
  | zero =>
    intro j hj hd
    obtain rfl : j = (nextL l).length := by omega
    rw [List.take_of_length_le (Nat.le_refl _)]
    refine Ev.step (f := fun k => switchbackref05_sorted.l1 k l (nextL l) false 0 0) (fun k => ?_) ?_
    · simp only [switchbackref05_sorted.l0]
      rw [if_pos (by omega)]
    · refine sorted_l1 l (nextL l) (nextL l) (by omega) (by omega) l.length 0 (false, 0) (by omega) (by omega) ?_
      rw [List.drop_zero]
      obtain ⟨h1, _⟩ := pick_spec (nextL l) l (false, 0) (fun h => by cases h)
      cases hr : (l.foldl (pickS (nextL l)) (false, 0)).1 with
      | true =>
        obtain ⟨a, b, _⟩ := h1 hr
        rcases b with ⟨b, _⟩ | b
        · cases b
        · obtain ⟨i, hi, he⟩ := List.mem_iff_getElem.1 (nextL_mem.2 b)
          have h2 := cand_take hS (Nat.le_refl (nextL l).length) hi
          rw [List.take_of_length_le (Nat.le_refl _), he] at h2
          have := h2.1 a
          omega
      | false => exact Ev.congr (fun k => if_neg (by simp)) (Ev.now _)
  | succ d ih =>
    intro j hj hd
    have hjl : j < (nextL l).length := by omega
    refine Ev.step (f := fun k => switchbackref05_sorted.l1 k l ((nextL l).take j) false 0 0) (fun k => ?_) ?_
    · simp only [switchbackref05_sorted.l0]
      rw [if_pos (by rw [List.length_take]; omega)]
    · refine sorted_l1 l ((nextL l).take j) (nextL l) (by omega) (by rw [List.length_take]; omega) l.length 0 (false, 0) (by omega) (by omega) ?_
      rw [List.drop_zero]
      obtain ⟨h1, h2⟩ := pick_spec ((nextL l).take j) l (false, 0) (fun h => by cases h)
      cases hr : (l.foldl (pickS ((nextL l).take j)) (false, 0)).1 with
      | true =>
        obtain ⟨a, b, _, c⟩ := h1 hr
        rcases b with ⟨b, _⟩ | b
        · cases b
        · obtain ⟨i, hi, he⟩ := List.mem_iff_getElem.1 (nextL_mem.2 b)
          rw [← he] at a
          have hji := (cand_take hS hj hi).1 a
          have h3 := c (nextL l)[j] (nextL_mem.1 (List.getElem_mem hjl)) ((cand_take hS hj hjl).2 (Nat.le_refl _))
          have hij : i = j := by
            rcases Nat.lt_or_eq_of_le hji with h4 | h4
            · have := List.pairwise_iff_getElem.1 hS j i hjl hi h4; omega
            · exact h4.symm
          subst hij
          rw [← he]
          refine Ev.congr (fun k => ?_) (ih (i + 1) (by omega) (by omega))
          rw [if_pos rfl, if_pos (by rw [List.length_take]; omega), List.take_succ_eq_append_getElem hi]
      | false =>
        have h4 := (h2 hr).2 (nextL l)[j] (nextL_mem.1 (List.getElem_mem hjl))
        rw [(cand_take hS hj hjl).2 (Nat.le_refl _)] at h4
        cases h4
theorem sorted_is (l : List Int) (hn : l.length ≤ 17592186044415) : Ev (fun k => switchbackref05_sorted.f k l) (nextL l) := by
  have h := sorted_l0 l hn (nextL l).length 0 (by omega) (by omega)
  rw [List.take_zero] at h
  exact h

theorem next_l0 (x1 x2 x3 x4 x5 x6 x7 : Int) (cs : List S85) (x9 : List Int) (l : List Int) (r : List Int) (hn : l.length + cs.length ≤ 17592186044415) : ∀ (d i : Nat), i ≤ cs.length → cs.length - i = d → ∀ acc, acc.length = l.length + i →
    Ev (fun k => switchbackref05_sorted.f k (acc ++ (cs.drop i).map (·.f1))) r → Ev (fun k => switchbackref05_Next.l0 k acc (i : Int) x1 x2 x3 x4 x5 x6 x7 cs x9) r
  | 0, i, hi, hd, acc, ha, he => by
    obtain rfl : i = cs.length := by omega
    rw [List.drop_length, List.map_nil, List.append_nil] at he
    refine Ev.step (fun k => ?_) he
    simp only [switchbackref05_Next.l0]
    rw [if_neg (by omega)]
    cases switchbackref05_sorted.f k acc <;> rfl
  | d + 1, i, hi, hd, acc, ha, he => by
    have hlt : i < cs.length := by omega
    rw [List.drop_eq_getElem_cons hlt, List.map_cons] at he
    have ih := next_l0 x1 x2 x3 x4 x5 x6 x7 cs x9 l r hn d (i + 1) (by omega) (by omega) (acc ++ [cs[i].f1]) (by simp; omega) (by rw [List.append_assoc]; exact he)
    rw [show ((i + 1 : Nat) : Int) = (i : Int) + 1 by omega] at ih
    refine Ev.step (fun k => ?_) ih
    simp only [switchbackref05_Next.l0]
    rw [if_pos (by omega), if_pos (by omega), if_pos (by omega), wrap_up (n := cs.length) (by omega) (by omega) (by omega)]
    have : rd_T85 cs (i : Int) = cs[i] := by unfold rd_T85; rw [Int.toNat_natCast, List.getD_eq_getElem?_getD, List.getElem?_eq_getElem hlt]; rfl
    rw [this]
theorem bind_id {α : Type} (o : Option α) : (o.bind fun t => some t) = o := by cases o <;> rfl
def slimB (b : S77) : Prop := b.f1.f8.length ≤ 17592186043904
/-- The reference's Next at a block. -/
theorem refNext_is (l0 : List Int) (a1 : Int) (l2 : List S79) (l3 : List S77) (i : Int) (h : inL l3.length i) (hok : okBlk (rd_T77 l3 i)) (hsl : slimB (rd_T77 l3 i)) : Ev (fun k => switchbackref05_Next.f k l0 a1 l2 l3 i) (nextB (rd_T77 l3 i)) := by
  have hb : switchbackref05_below.f i (l3.length : Int) = some true := by
    unfold switchbackref05_below.f
    rw [if_pos h.1]
    simp [h.2]
  obtain ⟨_, _, h7, h8⟩ := hok
  unfold slimB at hsl
  have hu : ∀ k, switchbackref05_Next.f k l0 a1 l2 l3 i = _ := fun k => by unfold switchbackref05_Next.f; rw [hb, Option.bind_some, if_pos rfl, if_pos h.1, if_pos h.2]
  generalize hb2 : rd_T77 l3 i = b at *
  by_cases h1 : b.f1.f0 = 1
  · rw [show nextB b = nextL [b.f1.f5] by unfold nextB targetsOf; rw [if_neg (by omega), if_neg (by omega), if_neg (by omega), if_pos h1]]
    refine Ev.congr (fun k => ?_) (sorted_is [b.f1.f5] (by simp))
    rw [hu, if_pos h1, if_pos (by simp), bind_id]; rfl
  · by_cases h2 : b.f1.f0 = 2
    · rw [show nextB b = nextL [b.f1.f5, b.f1.f6] by unfold nextB targetsOf; rw [if_pos h2]]
      refine Ev.congr (fun k => ?_) (sorted_is [b.f1.f5, b.f1.f6] (by simp))
      rw [hu, if_neg h1, if_pos h2, Option.bind_some, if_pos (by simp), bind_id]; rfl
    · by_cases h3 : b.f1.f0 = 3
      · rw [show nextB b = nextL (b.f1.f5 :: b.f1.f7.map (·.f1)) from nextL_congr (fun x => by unfold targetsOf; rw [if_neg h2, if_pos h3, List.mem_cons, List.mem_cons, List.mem_reverse])]
        refine Ev.congr (fun k => ?_) (next_l0 b.f1.f0 b.f1.f1 b.f1.f2 b.f1.f3 b.f1.f4 b.f1.f5 b.f1.f6 b.f1.f7 b.f1.f8 [0] _ (by simp; omega) b.f1.f7.length 0 (by omega) (by omega) ([] ++ [b.f1.f5]) rfl (by
          rw [List.drop_zero]
          exact sorted_is (b.f1.f5 :: b.f1.f7.map (·.f1)) (by simp; omega)))
        rw [hu, if_neg h1, if_neg h2, if_pos h3, if_pos (by simp)]; rfl
      · by_cases h4 : b.f1.f0 = 4
        · rw [show nextB b = nextL (b.f1.f5 :: b.f1.f8) from nextL_congr (fun x => by unfold targetsOf; rw [if_neg h2, if_neg h3, if_pos h4, List.mem_cons, List.mem_cons, List.mem_reverse])]
          refine Ev.congr (fun k => ?_) (sorted_is (b.f1.f5 :: b.f1.f8) (by simp; omega))
          rw [hu, if_neg h1, if_neg h2, if_neg h3, if_pos h4, if_pos (by simp), Option.bind_some, if_pos (by simp; omega), bind_id]; rfl
        · rw [show nextB b = nextL [] by unfold nextB targetsOf; rw [if_neg h2, if_neg h3, if_neg h4, if_neg h1]]
          refine Ev.congr (fun k => ?_) (sorted_is [] (by simp))
          rw [hu, if_neg h1, if_neg h2, if_neg h3, if_neg h4, bind_id]

/-- The reference's Edges. -/
def refEdges (l3 : List S77) : List (List Int) × Bool := if 1 ≤ l3.length ∧ l3.length ≤ 20000 ∧ walksL l3.length l3 = true then (edgesL l3, true) else ([], false)
theorem edges_l1_out (l0 : List Int) (a1 : Int) (l2 : List S79) (l3 : List S77) (x4 : List (List Int)) (x5 : Int) (next : List Int) (hn : next.length ≤ 140737488355328) : ∀ (d i : Nat), i ≤ next.length → next.length - i = d → (next.drop i).any (outB l3.length) = true →
    Ev (fun k => switchbackref11_Edges.l1 k x4 x5 next (i : Int) l0 a1 l2 l3) ([], false)
  | 0, i, hi, hd, h => by
    obtain rfl : i = next.length := by omega
    rw [List.drop_length] at h; cases h
  | d + 1, i, hi, hd, h => by
    have hlt : i < next.length := by omega
    rw [rd_drop hlt, List.any_cons] at h
    by_cases h1 : rd next (i : Int) < 0
    · refine Ev.step (f := fun _ => some ([], false)) (fun k => ?_) (Ev.now _)
      simp only [switchbackref11_Edges.l1]
      rw [if_pos (by omega), if_pos (by omega), if_pos h1]
    · by_cases h2 : rd next (i : Int) ≥ (l3.length : Int)
      · refine Ev.step (f := fun _ => some ([], false)) (fun k => ?_) (Ev.now _)
        simp only [switchbackref11_Edges.l1]
        rw [if_pos (by omega), if_pos (by omega), if_neg h1, if_pos h2]
      · rw [show outB l3.length (rd next (i : Int)) = false by unfold outB; rw [decide_eq_false h1, decide_eq_false h2]; rfl, Bool.false_or] at h
        have ih := edges_l1_out l0 a1 l2 l3 x4 x5 next hn d (i + 1) (by omega) (by omega) h
        rw [show ((i + 1 : Nat) : Int) = (i : Int) + 1 by omega] at ih
        refine Ev.step (fun k => ?_) ih
        simp only [switchbackref11_Edges.l1]
        rw [if_pos (by omega), if_pos (by omega), if_neg h1, if_neg h2, wrap_up (n := next.length) (by omega) (by omega) hn]
theorem edges_l1_in (l0 : List Int) (a1 : Int) (l2 : List S79) (l3 : List S77) (x4 : List (List Int)) (x5 : Nat) (next : List Int) (r : List (List Int) × Bool) (hn : next.length ≤ 140737488355328) (h4 : x4.length < 5864062014805) (h5 : x5 < 100000) (hi2 : next.any (outB l3.length) = false)
    (hr : Ev (fun k => switchbackref11_Edges.l0 k (x4 ++ [next]) ((x5 : Int) + 1) l0 a1 l2 l3) r) : ∀ (d i : Nat), i ≤ next.length → next.length - i = d → Ev (fun k => switchbackref11_Edges.l1 k x4 (x5 : Int) next (i : Int) l0 a1 l2 l3) r
  | 0, i, hi, hd => by
    obtain rfl : i = next.length := by omega
    refine Ev.step (fun k => ?_) hr
    simp only [switchbackref11_Edges.l1]
    rw [if_neg (by omega), if_pos h4, wrap_up (n := 100000) (by omega) (by omega) (by omega)]
  | d + 1, i, hi, hd => by
    have hlt : i < next.length := by omega
    have h := List.any_eq_false.1 hi2 (rd next (i : Int)) (rd_mem (by omega) (by omega))
    simp only [outB, Bool.or_eq_true, decide_eq_true_eq, not_or] at h
    have ih := edges_l1_in l0 a1 l2 l3 x4 x5 next r hn h4 h5 hi2 hr d (i + 1) (by omega) (by omega)
    rw [show ((i + 1 : Nat) : Int) = (i : Int) + 1 by omega] at ih
    refine Ev.step (fun k => ?_) ih
    simp only [switchbackref11_Edges.l1]
    rw [if_pos (by omega), if_pos (by omega), if_neg h.1, if_neg h.2, wrap_up (n := next.length) (by omega) (by omega) hn]
theorem edges_l0 (l0 : List Int) (a1 : Int) (l2 : List S79) (l3 : List S77) (hl : l3.length ≤ 20000) (hok : ∀ b ∈ l3, okBlk b ∧ slimB b) : ∀ (d i : Nat), i ≤ l3.length → l3.length - i = d → walksL l3.length (l3.take i) = true →
    Ev (fun k => switchbackref11_Edges.l0 k (edgesL (l3.take i)) (i : Int) l0 a1 l2 l3) (if walksL l3.length l3 = true then (edgesL l3, true) else ([], false))
  | 0, i, hi, hd, hw => by
    obtain rfl : i = l3.length := by omega
    rw [List.take_length] at hw ⊢
    rw [if_pos hw]
    refine Ev.step (f := fun _ => some (edgesL l3, true)) (fun k => ?_) (Ev.now _)
    simp only [switchbackref11_Edges.l0]
    rw [if_neg (by omega)]
  | d + 1, i, hi, hd, hw => by
    have hlt : i < l3.length := by omega
    have hin : inL l3.length (i : Int) := ⟨by omega, by omega⟩
    have hb := rdB hlt
    have hk := hok _ (rdB_mem hin)
    have hnl : (nextB (rd_T77 l3 (i : Int))).length ≤ 140737488355328 := by
      refine Nat.le_trans (length_nextL _) ?_
      obtain ⟨_, _, h7, h8⟩ := hk.1
      unfold targetsOf
      split
      · simp
      · split
        · simp; omega
        · split
          · simp; omega
          · split <;> simp
    refine Ev.step (f := fun k => (switchbackref05_Next.f k l0 a1 l2 l3 (i : Int)).bind fun t233 => switchbackref11_Edges.l1 k (edgesL (l3.take i)) (i : Int) t233 0 l0 a1 l2 l3) (fun k => ?_) (Ev.bind (f := fun k t => switchbackref11_Edges.l1 k (edgesL (l3.take i)) (i : Int) t 0 l0 a1 l2 l3) (refNext_is l0 a1 l2 l3 (i : Int) hin hk.1 hk.2) ?_)
    · simp only [switchbackref11_Edges.l0]
      rw [if_pos (by omega)]
    · cases hany : (nextB (rd_T77 l3 (i : Int))).any (outB l3.length) with
      | true =>
        rw [if_neg]
        · exact edges_l1_out l0 a1 l2 l3 _ _ _ hnl (nextB (rd_T77 l3 (i : Int))).length 0 (by omega) (by omega) (by rw [List.drop_zero]; exact hany)
        · intro hw2
          have := List.all_eq_true.1 hw2 l3[i] (List.getElem_mem hlt)
          rw [← hb, hany] at this
          cases this
      | false =>
        refine edges_l1_in l0 a1 l2 l3 _ i _ _ hnl (by simp [edgesL]; omega) (by omega) hany ?_ (nextB (rd_T77 l3 (i : Int))).length 0 (by omega) (by omega)
        have ih := edges_l0 l0 a1 l2 l3 hl hok d (i + 1) (by omega) (by omega) (by
          rw [List.take_succ_eq_append_getElem hlt, walksL, List.all_append]
          rw [walksL] at hw
          rw [hw, Bool.true_and, List.all_cons, List.all_nil, Bool.and_true, ← hb, hany]; rfl)
        rw [show ((i + 1 : Nat) : Int) = (i : Int) + 1 by omega] at ih
        rw [show edgesL (l3.take i) ++ [nextB (rd_T77 l3 (i : Int))] = edgesL (l3.take (i + 1)) by
          rw [List.take_succ_eq_append_getElem hlt, edgesL, edgesL, List.map_append, hb]; rfl]
        exact ih
theorem refEdges_is (l0 : List Int) (a1 : Int) (l2 : List S79) (l3 : List S77) (hok : ∀ b ∈ l3, okBlk b ∧ slimB b) : Ev (fun k => switchbackref11_Edges.f k l0 a1 l2 l3) (refEdges l3) := by
  by_cases h1 : 1 ≤ l3.length
  · by_cases h2 : l3.length ≤ 20000
    · have h := edges_l0 l0 a1 l2 l3 h2 hok l3.length 0 (by omega) (by omega) rfl
      rw [show refEdges l3 = if walksL l3.length l3 = true then (edgesL l3, true) else ([], false) by unfold refEdges; simp only [h1, h2, true_and]]
      refine Ev.congr (f := fun k => switchbackref11_Edges.j0 k false l0 a1 l2 l3) (fun k => ?_) (Ev.step (fun k => ?_) h)
      · unfold switchbackref11_Edges.f
        rw [if_neg (by omega), decide_eq_false (by omega)]
      · simp only [switchbackref11_Edges.j0]
        rw [if_neg (by simp)]; rfl
    · rw [show refEdges l3 = ([], false) by unfold refEdges; rw [if_neg (by omega)]]
      refine Ev.congr (f := fun k => switchbackref11_Edges.j0 k true l0 a1 l2 l3) (fun k => ?_) (Ev.step (f := fun _ => some ([], false)) (fun k => ?_) (Ev.now _))
      · unfold switchbackref11_Edges.f
        rw [if_neg (by omega), decide_eq_true (by omega)]
      · simp only [switchbackref11_Edges.j0]
        rw [if_pos trivial]
  · rw [show refEdges l3 = ([], false) by unfold refEdges; rw [if_neg (by omega)]]
    refine Ev.congr (f := fun k => switchbackref11_Edges.j0 k true l0 a1 l2 l3) (fun k => ?_) (Ev.step (f := fun _ => some ([], false)) (fun k => ?_) (Ev.now _))
    · unfold switchbackref11_Edges.f
      rw [if_pos (by omega)]
    · simp only [switchbackref11_Edges.j0]
      rw [if_pos trivial]
end Go.Proofs.Ytocdebfbpfmnnaa.Pr
namespace Go.Proofs.Ytocdebfbpfmnnaa.Pr
open Go.RowKit Go.Proofs.YtocdebfbpfmnnaaW.PrintWords Go.Proofs.YtocdebfbpfmnnaaW.PrintLast Go.Proofs.YtocdebfbpfmnnaaW.PrintMore
set_option linter.unusedVariables false

theorem pick_in (c m : Int) (hc : wf64 c) (hm : 0 < m) (hm2 : m ≤ 9223372036854775807) : ∃ p, switchbacklaw15_pick.f c m = some p ∧ 0 ≤ p ∧ p < m := by
  unfold wf64 at hc
  unfold switchbacklaw15_pick.f
  by_cases h : c < 0
  · rw [if_pos h, if_neg (by omega)]
    have h1 : wrap64 (c + 1) = c + 1 := by unfold wrap64; omega
    have h2 : wrap64 (-(c + 1)) = -(c + 1) := by unfold wrap64; omega
    rw [h1, h2]
    exact ⟨_, rfl, Int.tmod_nonneg _ (by omega), Int.tmod_lt_of_pos _ hm⟩
  · rw [if_neg h, if_neg (by omega)]
    exact ⟨_, rfl, Int.tmod_nonneg _ (by omega), Int.tmod_lt_of_pos _ hm⟩
theorem swap_perm {l : List Int} {a b : Int} (ha : 0 ≤ a) (ha2 : a < (l.length : Int)) (hb : 0 ≤ b) (hb2 : b < (l.length : Int)) : ((l.set a.toNat (rd l b)).set b.toNat (rd l a)).Perm l := by
  obtain ⟨i, rfl⟩ : ∃ i : Nat, a = i := ⟨a.toNat, by omega⟩
  obtain ⟨j, rfl⟩ : ∃ j : Nat, b = j := ⟨b.toNat, by omega⟩
  rw [Int.toNat_natCast, Int.toNat_natCast, rd_at (by omega), rd_at (by omega)]
  exact List.set_set_perm (by omega) (by omega)
theorem swap_order {n : Nat} {l : List Int} {a b : Int} (h : IsOrder n l) (ha : 1 ≤ a) (ha2 : a < (l.length : Int)) (hb : 1 ≤ b) (hb2 : b < (l.length : Int)) : IsOrder n ((l.set a.toNat (rd l b)).set b.toNat (rd l a)) := by
  refine ⟨(swap_perm (by omega) ha2 (by omega) hb2).trans h.1, ?_⟩
  rw [rd_set (by rw [List.length_set]; omega), if_neg (by omega), rd_set (by omega), if_neg (by omega)]
  exact h.2
theorem shuf_l1 (how : List Int) (n : Nat) (hw : ∀ c ∈ how, wf64 c) (hl : how.length ≤ 140737488355328) (hn : n ≤ 20000) : ∀ (d i : Nat) (l : List Int), i ≤ how.length → how.length - i = d → IsOrder n l →
    ∃ r, IsOrder n r ∧ Ev (fun k => switchbacklaw15_shuffled.l1 k how (n : Int) l (i : Int)) r
  | 0, i, l, hi, hd, h => by
    refine ⟨l, h, Ev.step (f := fun _ => some l) (fun k => ?_) (Ev.now _)⟩
    simp only [switchbacklaw15_shuffled.l1]
    rw [if_neg (by omega)]
  | d + 1, i, l, hi, hd, h => by
    by_cases h1 : n > 1
    · have hc := hw _ (rd_mem (xs := how) (i := (i : Int)) (by omega) (by omega))
      have hw1 : wrap64 ((n : Int) - 1) = (n : Int) - 1 := by unfold wrap64; omega
      obtain ⟨p, hp, hp0, hp1⟩ := pick_in (rd how (i : Int)) ((n : Int) - 1) hc (by omega) (by omega)
      have hm0 : 0 ≤ Int.tmod (i : Int) ((n : Int) - 1) := Int.tmod_nonneg _ (by omega)
      have hm1 : Int.tmod (i : Int) ((n : Int) - 1) < (n : Int) - 1 := Int.tmod_lt_of_pos _ (by omega)
      have hll := h.length
      have hwp : wrap64 (1 + p) = 1 + p := by unfold wrap64; omega
      have hwm : wrap64 (1 + Int.tmod (i : Int) ((n : Int) - 1)) = 1 + Int.tmod (i : Int) ((n : Int) - 1) := by unfold wrap64; omega
      obtain ⟨r, hr, he⟩ := shuf_l1 how n hw hl hn d (i + 1) _ (by omega) (by omega) (swap_order (a := 1 + p) (b := 1 + Int.tmod (i : Int) ((n : Int) - 1)) h (by omega) (by omega) (by omega) (by omega))
      rw [show ((i + 1 : Nat) : Int) = (i : Int) + 1 by omega] at he
      refine ⟨r, hr, Ev.step (fun k => ?_) he⟩
      simp only [switchbacklaw15_shuffled.l1]
      rw [if_pos (by omega), if_pos (by omega), if_pos (by omega), hw1, hp, Option.bind_some, if_neg (by omega), hwm, hwp, if_pos (by omega), if_pos (by omega), if_pos (by omega), if_pos (by omega), wrap_up (n := how.length) (by omega) (by omega) hl]
    · refine ⟨l, h, Ev.step (f := fun _ => some l) (fun k => ?_) (Ev.now _)⟩
      simp only [switchbacklaw15_shuffled.l1]
      rw [if_pos (by omega), if_neg (by omega)]
theorem ints_order {n : Nat} (hn : 1 ≤ n) : IsOrder n (ints n) := by
  refine ⟨List.Perm.refl _, ?_⟩
  have h : 0 < (ints n).length := by rw [length_ints]; omega
  have := rd_at h
  rw [ints_at h] at this
  exact this
theorem shuf_l0 (how : List Int) (n : Nat) (r : List Int) (hn : n ≤ 20000) (hr : Ev (fun k => switchbacklaw15_shuffled.l1 k how (n : Int) (ints n) 0) r) : ∀ (d i : Nat), i ≤ n → n - i = d → Ev (fun k => switchbacklaw15_shuffled.l0 k how (n : Int) ((ints n).take i) (i : Int)) r
  | 0, i, hi, hd => by
    obtain rfl : i = n := by omega
    rw [List.take_of_length_le (by rw [length_ints]; exact Nat.le_refl _)]
    refine Ev.step (fun k => ?_) hr
    simp only [switchbacklaw15_shuffled.l0]
    rw [if_neg (by omega)]
  | d + 1, i, hi, hd => by
    have hlt : i < (ints n).length := by rw [length_ints]; omega
    have ih := shuf_l0 how n r hn hr d (i + 1) (by omega) (by omega)
    rw [show ((i + 1 : Nat) : Int) = (i : Int) + 1 by omega, List.take_succ_eq_append_getElem hlt, ints_at hlt] at ih
    refine Ev.step (fun k => ?_) ih
    simp only [switchbacklaw15_shuffled.l0]
    rw [if_pos (by omega), if_pos (by rw [List.length_take]; omega), wrap_up (n := n) (by omega) (by omega) (by omega)]
theorem shuffled_is (how : List Int) (n : Nat) (hw : ∀ c ∈ how, wf64 c) (hl : how.length ≤ 140737488355328) (h1 : 1 ≤ n) (hn : n ≤ 20000) : ∃ r, IsOrder n r ∧ Ev (fun k => switchbacklaw15_shuffled.f k how (n : Int)) r := by
  obtain ⟨r, hr, he⟩ := shuf_l1 how n hw hl hn how.length 0 (ints n) (by omega) (by omega) (ints_order h1)
  exact ⟨r, hr, shuf_l0 how n r hn he n 0 (by omega) (by omega)⟩
end Go.Proofs.Ytocdebfbpfmnnaa.Pr
