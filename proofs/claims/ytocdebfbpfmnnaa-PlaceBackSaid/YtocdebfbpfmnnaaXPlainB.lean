/- place.chained's closure: may a block stand directly behind another one? And the plain function that place.chained computes. -/
import Derived.Test.YtocdebfbpfmnnaaXLoop3
namespace Go.Proofs.Ytocdebfbpfmnnaa.Pr
open Go.RowKit Go.Proofs.YtocdebfbpfmnnaaW.PrintWords Go.Proofs.YtocdebfbpfmnnaaW.PrintLast Go.Proofs.YtocdebfbpfmnnaaW.PrintMore
set_option linter.unusedVariables false
set_option linter.unusedSimpArgs false

def aloneB (ah : List Int) (a c : Int) : Bool := (c != a) && (c != 0) && (rd ah c == 1)
set_option maxHeartbeats 1000000 in
theorem alone.calls (ga gh gR n cap : Nat) (a c : Int) (ah : List Int) (W : World) (ha : W.cell? ⟨ga, 0, none⟩ = some (.int .i64 a)) (hh : W.cell? ⟨gh, 0, none⟩ = some (.slice (some ⟨gR, 0, none⟩) n cap)) (h0 : 0 ≤ c) (h1 : c < n)
    (hc : W.cell? ⟨gR, c.toNat, none⟩ = some (.int .i64 (rd ah c))) :
    Calls Try.prog 62 #[.int .i64 c, .pointer (some ⟨ga, 0, none⟩), .pointer (some ⟨gh, 0, none⟩)] W fun e w' => e = .returned (.bool (aloneB ah a c)) ∧ W = w' := by
  by_cases e1 : c = a
  · have b1 : (c != a) = false := by simp [e1]
    have HX := Aside0.mk (show aloneB ah a c = false by simp [aloneB, e1])
    clear e1
    go_enter Try.func62, Try.ntmps62
    go_wp2
    go_ret
    exact ⟨by rw [HX.out]; rfl, rfl⟩
  · have b1 : (c != a) = true := by simp [e1]
    by_cases e2 : c = 0
    · have b2 : (c != 0) = false := by simp [e2]
      have HX := Aside0.mk (show aloneB ah a c = false by simp [aloneB, e2])
      clear e1 e2
      go_enter Try.func62, Try.ntmps62
      go_wp2
      go_ret
      exact ⟨by rw [HX.out]; rfl, rfl⟩
    · have b2 : (c != 0) = true := by simp [e2]
      by_cases e3 : rd ah c = 1
      · have b3 : (rd ah c == 1) = true := by simp [e3]
        have HX := Aside0.mk (show aloneB ah a c = true by simp [aloneB, e1, e2, e3])
        clear e1 e2 e3
        go_enter Try.func62, Try.ntmps62
        go_wp2
        go_ret
        exact ⟨by rw [HX.out]; rfl, rfl⟩
      · have b3 : (rd ah c == 1) = false := by simp [e3]
        have HX := Aside0.mk (show aloneB ah a c = false by simp [aloneB, e3])
        clear e1 e2 e3
        go_enter Try.func62, Try.ntmps62
        go_wp2
        go_ret
        exact ⟨by rw [HX.out]; rfl, rfl⟩

/-- How many lead to each block. -/
def count1 : List Int → List Int → List Int
  | ah, [] => ah
  | ah, c :: l => count1 (ah.set c.toNat (rd ah c + 1)) l
def countAll : List Int → List (List Int) → List Int
  | ah, [] => ah
  | ah, l :: ls => countAll (count1 ah l) ls
def aheadL (tos : List (List Int)) : List Int := countAll (List.replicate tos.length 0) tos
def chainAt (ah met : List Int) (a : Int) (e : S74) : Int :=
  if rd met a < 0 then -1 else if e.f0 = 1 ∧ aloneB ah a e.f5 = true then e.f5 else if e.f0 = 2 ∧ aloneB ah a e.f6 = true then e.f6 else if e.f0 = 2 ∧ aloneB ah a e.f5 = true then e.f5 else -1
def chainedL (l3 : List S77) (tos : List (List Int)) (met : List Int) : List Int := (ints l3.length).map fun a => chainAt (aheadL tos) met a (rd_T77 l3 a).f1
theorem length_count1 : ∀ (l ah : List Int), (count1 ah l).length = ah.length
  | [], _ => rfl
  | c :: l, ah => by rw [count1, length_count1 l, List.length_set]
theorem length_countAll : ∀ (ls : List (List Int)) (ah : List Int), (countAll ah ls).length = ah.length
  | [], _ => rfl
  | l :: ls, ah => by rw [countAll, length_countAll ls, length_count1]
theorem length_aheadL (tos : List (List Int)) : (aheadL tos).length = tos.length := by rw [aheadL, length_countAll, List.length_replicate]
theorem length_chainedL (l3 : List S77) (tos : List (List Int)) (met : List Int) : (chainedL l3 tos met).length = l3.length := by simp [chainedL, length_ints]
/-- No count is greater than how many there are in all. -/
def countIn (N : Nat) (ah : List Int) : Prop := ∀ x ∈ ah, 0 ≤ x ∧ x ≤ N
theorem rd_countIn {N : Nat} {ah : List Int} (h : countIn N ah) (c : Int) : 0 ≤ rd ah c ∧ rd ah c ≤ N := by
  unfold rd
  rw [List.getD_eq_getElem?_getD]
  by_cases hc : c.toNat < ah.length
  · rw [List.getElem?_eq_getElem hc]; exact h _ (List.getElem_mem hc)
  · rw [List.getElem?_eq_none (by omega)]; exact ⟨Int.le_refl _, Int.natCast_nonneg _⟩
theorem countIn_set {N : Nat} {ah : List Int} (h : countIn N ah) (c : Int) : countIn (N + 1) (ah.set c.toNat (rd ah c + 1)) := by
  intro x hx
  have hr := rd_countIn h c
  rcases List.mem_or_eq_of_mem_set hx with hx | rfl
  · have := h x hx; omega
  · omega
theorem count1_snoc : ∀ (l ah : List Int) (c : Int), count1 ah (l ++ [c]) = (count1 ah l).set c.toNat (rd (count1 ah l) c + 1)
  | [], _, _ => rfl
  | d :: l, ah, c => by rw [List.cons_append, count1, count1_snoc l]; rfl
theorem countAll_snoc : ∀ (ls : List (List Int)) (ah : List Int) (l : List Int), countAll ah (ls ++ [l]) = count1 (countAll ah ls) l
  | [], _, _ => rfl
  | d :: ls, ah, l => by rw [List.cons_append, countAll, countAll_snoc ls]; rfl
theorem count1_step {l ah : List Int} {r : Nat} (h : r < l.length) : (count1 ah (l.take r)).set (rd l (r : Int)).toNat (rd (count1 ah (l.take r)) (rd l (r : Int)) + 1) = count1 ah (l.take (r + 1)) := by
  rw [List.take_succ_eq_append_getElem h, count1_snoc, rd_at h]
theorem rdL_at {ls : List (List Int)} {q : Nat} (h : q < ls.length) : rd_L2 ls (q : Int) = ls[q] := by
  unfold rd_L2; rw [Int.toNat_natCast, List.getD_eq_getElem?_getD, List.getElem?_eq_getElem h]; rfl
theorem countAll_step {ls : List (List Int)} {ah : List Int} {q : Nat} (h : q < ls.length) : count1 (countAll ah (ls.take q)) (rd_L2 ls (q : Int)) = countAll ah (ls.take (q + 1)) := by
  rw [List.take_succ_eq_append_getElem h, countAll_snoc, rdL_at h]
theorem ints_at {n q : Nat} (h : q < (ints n).length) : (ints n)[q] = (q : Int) := by simp [ints]
def chainF (l3 : List S77) (tos : List (List Int)) (met : List Int) (a : Int) : Int := chainAt (aheadL tos) met a (rd_T77 l3 a).f1
theorem size_setCell0 (w : World) (p : Addr) (v : Value) : (w.setCell p v).heap.size = w.heap.size := by simp [World.setCell]
/-- A row one of whose elements more is filled. -/
theorem fillq {F : Int → Int} {q : Nat} {w : World} {base m cap g : Nat} {ok : Nat → Prop} (hq : q < m) (v : Int) (hv : F (q : Int) = v) {N : Nat} (hR : (Kd.int .i64).R 3 w base ok (.slice (some ⟨g, 0, none⟩) m cap) ((filled F 0 (ints N) q).set q v)) (hN : q < N) :
    (Kd.int .i64).R 3 w base ok (.slice (some ⟨g, 0, none⟩) m cap) (filled F 0 (ints N) (q + 1)) := by
  have hl : q < (ints N).length := by rw [length_ints]; exact hN
  rw [← filled_set hl, ints_at hl, hv]
  exact hR
end Go.Proofs.Ytocdebfbpfmnnaa.Pr
namespace Go.Proofs.Ytocdebfbpfmnnaa.Pr
open Go.RowKit Go.Proofs.YtocdebfbpfmnnaaW.PrintWords Go.Proofs.YtocdebfbpfmnnaaW.PrintLast Go.Proofs.YtocdebfbpfmnnaaW.PrintMore
set_option linter.unusedVariables false
set_option linter.unusedSimpArgs false

theorem nodup_len : ∀ (n : Nat) (l : List Int), l.Nodup → (∀ x ∈ l, inL n x) → l.length ≤ n
  | 0, l, _, h => by
    cases l with
    | nil => exact Nat.le_refl _
    | cons x l => have := h x List.mem_cons_self; unfold inL at this; omega
  | n + 1, l, hn, h => by
    have h1 := nodup_len n (l.erase (n : Int)) (hn.erase _) (fun x hx => by
      rw [hn.mem_erase_iff] at hx
      have h2 := h x hx.2
      have h3 := hx.1
      unfold inL at h2 ⊢
      omega)
    rw [List.length_erase] at h1
    split at h1 <;> omega
/-- A count more, if there is one to count. -/
def bump (bh : List Int) (c : Int) : List Int := if 0 ≤ c then bh.set c.toNat (rd bh c + 1) else bh
def behindL (next : List Int) : List Int := next.foldl bump (List.replicate next.length 0)
def headsL (behind : List Int) : List Int := (ints behind.length).filter fun b => rd behind b == 0
/-- A chain from a block on. -/
def chainO (next : List Int) : Nat → Int → Option (List Int)
  | 0, _ => none
  | k + 1, b => if b < 0 then some [] else (chainO next k (rd next b)).map (b :: ·)
def chainsO (next : List Int) (k : Nat) : List Int → Option (List Int)
  | [] => some []
  | h :: hs => (chainO next k h).bind fun l => (chainsO next k hs).map (l ++ ·)
theorem length_bump (bh : List Int) (c : Int) : (bump bh c).length = bh.length := by unfold bump; split <;> simp
theorem length_foldl_bump : ∀ (l bh : List Int), (l.foldl bump bh).length = bh.length
  | [], _ => rfl
  | c :: l, bh => by rw [List.foldl_cons, length_foldl_bump l, length_bump]
theorem length_behindL (next : List Int) : (behindL next).length = next.length := by rw [behindL, length_foldl_bump, List.length_replicate]
theorem drop_rd2 (l : List Int) (j : Nat) (hj : j < l.length) : l.drop j = rd l (j : Int) :: l.drop (j + 1) := by
  rw [List.drop_eq_getElem_cons hj, rd_at hj]
theorem bump_step {l bh : List Int} {q : Nat} (h : q < l.length) : (l.take (q + 1)).foldl bump bh = bump ((l.take q).foldl bump bh) (rd l (q : Int)) := by
  rw [List.take_succ_eq_append_getElem h, List.foldl_append, rd_at h]; rfl
theorem countIn_bump {N : Nat} {bh : List Int} (h : countIn N bh) (c : Int) : countIn (N + 1) (bump bh c) := by
  unfold bump
  split
  · exact countIn_set h c
  · intro x hx
    have := h x hx
    omega
theorem filter_step {n q : Nat} (p : Int → Bool) (h : q < n) : ((ints n).take (q + 1)).filter p = ((ints n).take q).filter p ++ if p (q : Int) = true then [(q : Int)] else [] := by
  have hl : q < (ints n).length := by rw [length_ints]; exact h
  rw [List.take_succ_eq_append_getElem hl, List.filter_append, ints_at hl]
  congr 1
  by_cases hp : p (q : Int) = true <;> simp [hp]
theorem R_make0 {P : Program} {ops : Array Oper} {rest : List Oper} {o : Oper} {a : Act} {Q : Exit → Act → World → Prop} {w0 W : World} (base e : Nat) (hgd : o.guard = none) {N : Tmp} (hd : o.dst = some N) (t : TypeId) (x y : Operand) (ho : o.op = .makeSlice t x y) (c : Nat) (hx : a.eval x = .int .i64 0) (hy : a.eval y = .int .i64 (c : Int))
    (ht : P.underlying t = some (.slice e)) (hinfo : (P.info? e).map (fun i => (i.zero, i.size, i.bytes)) = some (some (.int .i64 0), 1, 8)) {ok : Nat → Prop} (hfresh : ok W.heap.size) (hl : c * 8 ≤ 281474976710656) (HB : Below base w0 W) (hbase : base ≤ W.heap.size)
    (h : ∀ v1 w1, (Kd.int .i64).R e w1 base ok v1 [] → Below base w0 w1 → W.grownBy w1 none → (∃ b, v1.ownBlock = some b ∧ W.heap.size ≤ b) → wpList P ops Q rest (a.put o.dst v1) w1) : wpList P ops Q (o :: rest) a W := by
  obtain ⟨i0, hi, hzz⟩ := Option.map_eq_some_iff.1 hinfo
  simp only [Prod.mk.injEq] at hzz
  obtain ⟨hz0, hz1, hz2⟩ := hzz
  obtain ⟨w1, hr, ho1, hg⟩ := run_make_own (P := P) W base t e i0 (.int .i64 0) 1 ht hi hz0 hz1 .i64 .i64 c (by rw [hz2]; omega) (by unfold maxLen; omega) hbase
  refine Kd.event_run (w1 := w1) (v := .slice (some ⟨W.heap.size, 0, none⟩) 0 c) hgd ?_ (h _ _ ?_ (HB.grown hg hbase (fun k hk => by cases hk)) hg ⟨W.heap.size, by simp [Value.ownBlock], Nat.le_refl _⟩)
  · simp [execOp, ho, hx, hy, hr]
  · refine Kd.R_of_own (xs := ([] : List Int)) ho1 (fun k hk => ?_)
    have : W.heap.size = k := by simpa [Value.ownBlock] using hk
    subst this
    exact hfresh

/-- slices.SortStableFunc by place.Place's order lays heads as hs. -/
def SortOK (met heads hs : List Int) : Prop := ∀ (gH cH gm cM base : Nat) (AM : Option Addr) (ok : Nat → Prop) (W : World),
  (Kd.int .i64).R 3 W base ok (.slice (some ⟨gH, 0, none⟩) heads.length cH) heads → W.cell? ⟨gm, 0, none⟩ = some (.slice AM met.length cM) → Kd.C (Kd.int .i64) W AM met.length met → gm ≠ gH → (∀ a, AM = some a → a.block ≠ gH) →
  Calls Try.prog 35 #[.slice (some ⟨gH, 0, none⟩) heads.length cH, .func (.func 36) #[] #[.pointer (some ⟨gm, 0, none⟩)]] W fun e w' => e = .returned (.tuple #[]) ∧
    (Kd.int .i64).R 3 w' base ok (.slice (some ⟨gH, 0, none⟩) heads.length cH) hs ∧ Touch (fun k => k = gH) W w'
theorem insert1.calls (v f : Value) (n : Nat) (W : World) (hn : n ≤ 1) : Calls Try.prog 99 #[v, .int .i64 0, .int .i64 (n : Int), f] W fun e w' => e = .returned (.tuple #[]) ∧ W = w' := by
  have hb : decide ((1 : Int) < (n : Int)) = false := decide_eq_false (by omega)
  have hb2 : decide (1 < n) = false := decide_eq_false (by omega)
  clear hn
  go_enter Try.func99, Try.ntmps99
  go_wp2
  go_loopw [8] (fun v8 wr => v8 = .int .i64 1 ∧ W = wr) (fun _ _ => 0)
  case atStart => exact ⟨rfl, rfl⟩
  case round =>
    obtain ⟨rfl, rfl⟩ := hrel
    go_wp2
    go_end0
    exact ⟨rfl, rfl⟩
theorem stable1.calls (v f : Value) (n : Nat) (W : World) (hn : n ≤ 1) : Calls Try.prog 63 #[v, .int .i64 (n : Int), f] W fun e w' => e = .returned (.tuple #[]) ∧ W = w' := by
  have hb : decide ((20 : Int) ≤ (n : Int)) = false := decide_eq_false (by omega)
  have hb2 : decide (20 ≤ n) = false := decide_eq_false (by omega)
  have hb3 : decide ((20 : Int) < (n : Int)) = false := decide_eq_false (by omega)
  have hb4 : decide (20 < n) = false := decide_eq_false (by omega)
  have HN := Aside0.mk hn
  clear hn
  go_enter Try.func63, Try.ntmps63
  go_wp2
  go_loopw [7, 8] (fun v7 v8 wr => v7 = .int .i64 0 ∧ v8 = .int .i64 20 ∧ W = wr) (fun _ _ _ => 0)
  case atStart => exact ⟨rfl, rfl, rfl⟩
  case round =>
    obtain ⟨rfl, rfl, rfl⟩ := hrel
    go_wp2_with (go_at_call 99; refine (insert1.calls _ _ n _ HN.out).mono ?_; rintro e w' ⟨rfl, rfl⟩)
    go_loopw [6, 7, 8, 9] (fun v6 v7 v8 v9 wr => v6 = .int .i64 20 ∧ W = wr) (fun _ _ _ _ _ => 0)
    case atStart => exact ⟨rfl, rfl⟩
    case round =>
      obtain ⟨rfl, rfl⟩ := hrel
      go_wp2
      go_end0
      exact ⟨rfl, rfl⟩
theorem sort1.calls (v f : Value) (A : Option Addr) (n c : Nat) (W : World) (hn : n ≤ 1) : Calls Try.prog 35 #[.slice A n c, f] W fun e w' => e = .returned (.tuple #[]) ∧ W = w' := by
  have HN := Aside0.mk hn
  clear hn
  go_enter Try.func35, Try.ntmps35
  go_wp2_with (go_at_call 63; refine (stable1.calls _ _ n _ HN.out).mono ?_; rintro e w' ⟨rfl, rfl⟩)
  go_end0
  exact ⟨rfl, rfl⟩
theorem sortOK_one {met heads : List Int} (h : heads.length ≤ 1) : SortOK met heads heads := by
  intro gH cH gm cM base AM ok W hR _ _ _ _
  refine (sort1.calls (.int .i64 0) _ _ _ _ W h).mono ?_
  rintro e w' ⟨rfl, rfl⟩
  exact ⟨rfl, hR, Touch.refl _ _⟩
end Go.Proofs.Ytocdebfbpfmnnaa.Pr
