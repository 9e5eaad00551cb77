/- Rows of one-cell elements: a cell read, a cell written. -/
import Derived.Test.YtocdebfbpfmnnaaPr0
import Derived.WalkSpells
namespace Go.Proofs.Ytocdebfbpfmnnaa.Pr
open Go.RowKit Go.Proofs.YtocdebfbpfmnnaaW.PrintWords Go.Proofs.YtocdebfbpfmnnaaW.PrintLast Go.Proofs.YtocdebfbpfmnnaaW.PrintMore
set_option linter.unusedVariables false
section
variable {α : Type} {d : Kd α} {e : Nat} {W : World} {base : Nat} {ok okp : Nat → Prop} {g n cap : Nat} {xs : List α}
theorem row_len (h : d.R e W base ok (.slice (some ⟨g, 0, none⟩) n cap) xs) : n = xs.length ∧ n ≤ cap := ⟨(Kd.R_reads' h).1, (Kd.R_reads' h).2.1⟩
theorem row_one (hsz : d.sz = 1) (h : d.R e W base ok (.slice (some ⟨g, 0, none⟩) n cap) xs) (q : Nat) (hq : q < n) (z : α) :
    ∃ u, W.cell? ⟨g, q, none⟩ = some u ∧ W.frozen? ⟨g, q, none⟩ = false ∧ d.M W base (fun k => ok k ∧ k ≠ g) (xs.getD q z) [u] := by
  have hn := row_len h
  obtain ⟨h0, inner, ho, hr⟩ := h
  have hlen := hr.1
  rw [hsz, Nat.mul_one] at hlen
  have hq' : q < xs.length := by omega
  have hqi : q < inner.length := by omega
  have hM := hr.2 q xs[q] (List.getElem?_eq_getElem hq')
  have he : (inner.drop (q * d.sz)).take d.sz = [inner[q]] := by
    rw [hsz, Nat.mul_one, List.drop_eq_getElem_cons hqi]; rfl
  rw [he] at hM
  refine ⟨inner[q], ?_, ?_, ?_⟩
  · have := ho.cells (g := g) rfl q _ (List.getElem?_eq_getElem hqi)
    rwa [add_plain] at this
  · rcases ho.2 with ⟨h', _⟩ | ⟨g', cap', cur, h', _, hh, _⟩
    · cases h'
    · have : g = g' := by injection h' with h'; injection h' with h'; injection h' with h'
      subst this
      simp [World.frozen?, hh]
  · rw [List.getD_eq_getElem?_getD, List.getElem?_eq_getElem hq']
    exact d.M_mono (fun k hk => ⟨hk.1, fun e => hk.2 (by rw [e]; rfl)⟩) hM
theorem row_set (hsz : d.sz = 1) (h : d.R e W base ok (.slice (some ⟨g, 0, none⟩) n cap) xs) (q : Nat) (hq : q < n) {x' : α} {u : Value} (hM : d.M W base okp x' [u]) (hokp : ∀ k, okp k → ok k ∧ k ≠ g) :
    d.R e (W.setCell ⟨g, q, none⟩ u) base ok (.slice (some ⟨g, 0, none⟩) n cap) (xs.set q x') ∧ W.grownBy (W.setCell ⟨g, q, none⟩ u) (some g) := by
  have hn := row_len h
  have hq' : q < xs.length := by omega
  obtain ⟨u0, hu0, _, _⟩ := row_one hsz h q hq xs[q]
  have hs := Kd.R_seg h (q : Int) (by omega) (by omega) (c := [u0]) (seg := [u]) (j := 0) (by rw [hsz]; rfl)
    (fun j v hv => by
      rw [hsz]
      cases j with
      | zero => simp at hv; subst hv; simpa using hu0
      | succ j => simp at hv) (by rw [hsz]; simp) (x' := x') (okp := okp) (by simpa using hM) hokp
  rw [hsz] at hs
  simpa [World.setCells] using hs
end
theorem rows_reads {w : World} {base : Nat} {ok : Nat → Prop} {xs : List Int} {u : Value} (h : (Kd.slice 3 (Kd.int .i64)).M w base ok xs [u]) : ∃ A c, u = .slice A xs.length c ∧ xs.length ≤ c ∧ Kd.C (Kd.int .i64) w A xs.length xs := by
  obtain ⟨v, hv, hR⟩ := h
  obtain rfl : u = v := by simpa using hv
  exact Kd.R_reads hR
theorem sets_below {w0 : World} {g : Nat} (hg : w0.heap.size ≤ g) : ∀ (vs : List Value) (o : Nat) {w : World}, Below w0.heap.size w0 w → Below w0.heap.size w0 (w.setCells g o vs)
  | [], _, _, h => h
  | v :: vs, o, _, h => sets_below hg vs (o + 1) (below_set h hg)
theorem sets_part {g : Nat} {t : TypeId} : ∀ (vs : List Value) (o : Nat) {w : World} (l1 l2 : List Value), l1.length = o → l2.length = vs.length → w.heap[g]? = some (.cells (l1 ++ l2).toArray t (0, 0)) →
    (w.setCells g o vs).heap[g]? = some (.cells (l1 ++ vs).toArray t (0, 0))
  | [], _, w, l1, l2, _, h2, h => by
    obtain rfl : l2 = [] := List.eq_nil_of_length_eq_zero h2
    exact h
  | v :: vs, o, w, l1, [], _, h2, _ => by simp at h2
  | v :: vs, o, w, l1, u :: l2, h1, h2, h => by
    have hs := blk_set h o v
    rw [List.setIfInBounds_toArray, List.set_append_right _ _ (by omega), h1, Nat.sub_self, List.set_cons_zero] at hs
    have := sets_part vs (o + 1) (w := w.setCell ⟨g, o, none⟩ v) (l1 ++ [v]) l2 (by simp [h1]) (by simpa using h2) (by simpa using hs)
    simpa [World.setCells] using this
theorem sets_all {g : Nat} {t : TypeId} {w : World} {l vs : List Value} (h : w.heap[g]? = some (.cells l.toArray t (0, 0))) (hl : l.length = vs.length) : (w.setCells g 0 vs).heap[g]? = some (.cells vs.toArray t (0, 0)) := by
  simpa using sets_part vs 0 (w := w) [] l rfl hl (by simpa using h)
theorem sets_R {α : Type} {d : Kd α} {e : Nat} {w : World} {base : Nat} {ok : Nat → Prop} {v : Value} {xs : List α} (h : d.R e w base ok v xs) {g : Nat} (hok : ∀ k, ok k → k ≠ g) (vs : List Value) (o : Nat) : d.R e (w.setCells g o vs) base ok v xs :=
  Kd.R_move h (fun k hk => setCells_far vs o k (hok k hk))
theorem sets_S {α : Type} {d : Kd α} {e : Nat} {w : World} {base : Nat} {ok : Nat → Prop} {v : Value} {xs : List α} (h : Kd.S d e w base ok v xs) {g : Nat} (hok : ∀ k, ok k → k ≠ g) (vs : List Value) (o : Nat) : Kd.S d e (w.setCells g o vs) base ok v xs :=
  Kd.S_move h (fun k hk => setCells_far vs o k (hok k hk))
theorem sets_blk {g k : Nat} {w : World} {o : Obj} (h : w.heap[k]? = some o) (hk : k ≠ g) (vs : List Value) (j : Nat) : (w.setCells g j vs).heap[k]? = some o := (setCells_far vs j k hk).trans h
theorem sets_size {g : Nat} (vs : List Value) (o : Nat) (w : World) : (w.setCells g o vs).heap.size = w.heap.size := (setCells_same g vs o w).2.2.2
theorem cell_far {w : World} {p q : Addr} {u : Value} {v : Option Value} (h : w.cell? p = v) (hne : p.block ≠ q.block) : (w.setCell q u).cell? p = v := by
  rw [← h]; simp only [World.cell?, Below.heap_setCell w q u p.block hne]
theorem cell_off {w : World} {g i j : Nat} {u v : Value} (h : w.cell? ⟨g, i, none⟩ = some v) (hne : i ≠ j) : (w.setCell ⟨g, j, none⟩ u).cell? ⟨g, i, none⟩ = some v := by
  rw [World.cell?_setCell_other _ _ _ _ (by simp [hne])]; exact h
end Go.Proofs.Ytocdebfbpfmnnaa.Pr
namespace Go.Proofs.Ytocdebfbpfmnnaa.Pr
open Go.RowKit Go.Proofs.YtocdebfbpfmnnaaW.PrintWords Go.Proofs.YtocdebfbpfmnnaaW.PrintLast Go.Proofs.YtocdebfbpfmnnaaW.PrintMore
set_option linter.unusedVariables false

/-- Two in line, which lead to no block together. -/
def spair {α β : Type} (a : Kd α) (b : Kd β) : Kd (α × β) where
  sz := a.sz + b.sz
  E := a.E ++ b.E
  K := (Kd.pair a b).K
  M := fun w base ok x cs => ∃ c0 c1, cs = c0 ++ c1 ∧ ∃ g : Nat → Bool, a.M w base (fun k => ok k ∧ g k = true) x.1 c0 ∧ b.M w base (fun k => ok k ∧ g k = false) x.2 c1
  K_len := (Kd.pair a b).K_len
  K_one := (Kd.pair a b).K_one
  K_below := (Kd.pair a b).K_below
  K_of_M := by
    rintro w base ok x cs ⟨c0, c1, rfl, g, h0, h1⟩
    exact ⟨c0, c1, rfl, a.K_of_M h0, b.K_of_M h1⟩
  M_mono := by
    rintro w base ok ok' x cs hok ⟨c0, c1, rfl, g, h0, h1⟩
    exact ⟨c0, c1, rfl, g, a.M_mono (fun k hk => ⟨hok k hk.1, hk.2⟩) h0, b.M_mono (fun k hk => ⟨hok k hk.1, hk.2⟩) h1⟩
  M_bound := by
    rintro w base ok x cs ⟨c0, c1, rfl, g, h0, h1⟩
    refine ⟨c0, c1, rfl, g, a.M_mono ?_ (a.M_bound h0), b.M_mono ?_ (b.M_bound h1)⟩
    · rintro k ⟨h2, h3, h4, q, hq, hc⟩
      exact ⟨⟨h2.1, h3, h4, q, List.mem_append_left _ hq, hc⟩, h2.2⟩
    · rintro k ⟨h2, h3, h4, q, hq, hc⟩
      exact ⟨⟨h2.1, h3, h4, q, List.mem_append_right _ hq, hc⟩, h2.2⟩
  M_move := by
    rintro w w1 base ok x cs hm ⟨c0, c1, rfl, g, h0, h1⟩
    exact ⟨c0, c1, rfl, g, a.M_move (fun k hk => hm k hk.1) h0, b.M_move (fun k hk => hm k hk.1) h1⟩
  M_lower := by
    rintro w base base' ok x cs hb ⟨c0, c1, rfl, g, h0, h1⟩
    exact ⟨c0, c1, rfl, g, a.M_lower hb h0, b.M_lower hb h1⟩
/-- A row no two elements of which lead to one block. -/
def sslice {α : Type} (e : Nat) (d : Kd α) : Kd (List α) where
  sz := 1
  E := e :: d.E
  K := (Kd.slice e d).K
  M := fun w base ok xs cs => ∃ v, cs = [v] ∧ Kd.S d e w base ok v xs
  K_len := (Kd.slice e d).K_len
  K_one := (Kd.slice e d).K_one
  K_below := (Kd.slice e d).K_below
  K_of_M := by
    rintro w base ok x cs ⟨v, rfl, h⟩
    obtain ⟨A, c, rfl, hl, hr⟩ := Kd.S_reads h
    exact ⟨A, c, rfl, hl, hr⟩
  M_mono := by
    rintro w base ok ok' x cs hok ⟨v, rfl, h⟩
    exact ⟨v, rfl, Kd.S_mono h hok⟩
  M_bound := by
    rintro w base ok x cs ⟨v, rfl, h⟩
    exact ⟨v, rfl, Kd.S_bound h⟩
  M_move := by
    rintro w w1 base ok x cs hm ⟨v, rfl, h⟩
    exact ⟨v, rfl, Kd.S_move h hm⟩
  M_lower := by
    rintro w base base' ok x cs hb ⟨v, rfl, h⟩
    exact ⟨v, rfl, Kd.S_lower h hb⟩

/-- A row's elements in another kind. -/
theorem R_kind {α β : Type} {d : Kd α} {d' : Kd β} {f : α → β} {e : Nat} {w : World} {base : Nat} {ok ok' : Nat → Prop} {v : Value} {xs : List α} (h : d.R e w base ok v xs) (hs : d'.sz = d.sz) (hok : ∀ k, ok k → ok' k)
    (hM : ∀ x ∈ xs, ∀ cs, d.M w base (fun k => ok k ∧ some k ≠ v.ownBlock) x cs → d'.M w base (fun k => ok' k ∧ some k ≠ v.ownBlock) (f x) cs) : d'.R e w base ok' v (xs.map f) := by
  obtain ⟨h0, inner, ho, hr⟩ := h
  refine ⟨fun k hk => hok k (h0 k hk), inner, by rw [List.length_map, hs]; exact ho, by rw [List.length_map, hs]; exact hr.1, fun j p hj => ?_⟩
  rw [List.getElem?_map] at hj
  obtain ⟨x, hx, rfl⟩ := Option.map_eq_some_iff.1 hj
  rw [hs]
  exact hM x (List.mem_of_getElem? hx) _ (hr.2 j x hx)
theorem R_kind' {α : Type} {d d' : Kd α} {e : Nat} {w : World} {base : Nat} {ok : Nat → Prop} {v : Value} {xs : List α} (h : d.R e w base ok v xs) (hs : d'.sz = d.sz)
    (hM : ∀ x cs ok, d.M w base ok x cs → d'.M w base ok x cs) : d'.R e w base ok v xs := by
  have := R_kind (f := id) h hs (fun _ hk => hk) (fun x _ cs hx => hM x cs _ hx)
  rwa [List.map_id] at this
theorem spair_mk {α β : Type} {a : Kd α} {b : Kd β} {w : World} {base : Nat} {ok ok1 ok2 : Nat → Prop} {x : α × β} {c0 c1 : List Value} (h0 : a.M w base ok1 x.1 c0) (h1 : b.M w base ok2 x.2 c1)
    (k1 : ∀ k, ok1 k → ok k) (k2 : ∀ k, ok2 k → ok k) (hd : ∀ k, ok1 k → ¬ ok2 k) : (spair a b).M w base ok x (c0 ++ c1) := by
  refine ⟨c0, c1, rfl, fun k => @decide (ok1 k) (Classical.propDecidable _), a.M_mono (fun k hk => ⟨k1 k hk, ?_⟩) h0, b.M_mono (fun k hk => ⟨k2 k hk, ?_⟩) h1⟩
  · simp [hk]
  · have : ¬ ok1 k := fun h => hd k h hk
    simp [this]
theorem spair_pair {α β : Type} {a a' : Kd α} {b b' : Kd β} (ha : ∀ w base ok x cs, a.M w base ok x cs → a'.M w base ok x cs) (hb : ∀ w base ok x cs, b.M w base ok x cs → b'.M w base ok x cs) :
    ∀ w base ok x cs, (spair a b).M w base ok x cs → (Kd.pair a' b').M w base ok x cs := by
  rintro w base ok x cs ⟨c0, c1, rfl, g, h0, h1⟩
  exact ⟨c0, c1, rfl, ha _ _ _ _ _ (a.M_mono (fun _ hk => hk.1) h0), hb _ _ _ _ _ (b.M_mono (fun _ hk => hk.1) h1)⟩
theorem pair_pair {α β : Type} {a a' : Kd α} {b b' : Kd β} (ha : ∀ w base ok x cs, a.M w base ok x cs → a'.M w base ok x cs) (hb : ∀ w base ok x cs, b.M w base ok x cs → b'.M w base ok x cs) :
    ∀ w base ok x cs, (Kd.pair a b).M w base ok x cs → (Kd.pair a' b').M w base ok x cs := by
  rintro w base ok x cs ⟨c0, c1, rfl, h0, h1⟩
  exact ⟨c0, c1, rfl, ha _ _ _ _ _ h0, hb _ _ _ _ _ h1⟩
theorem sslice_slice {α : Type} {e : Nat} {d d' : Kd α} (hs : d'.sz = d.sz) (hd : ∀ w base ok x cs, d.M w base ok x cs → d'.M w base ok x cs) :
    ∀ w base ok xs cs, (sslice e d).M w base ok xs cs → (Kd.slice e d').M w base ok xs cs := by
  rintro w base ok xs cs ⟨v, rfl, h⟩
  exact ⟨v, rfl, R_kind' (Kd.S_R h) hs (fun x cs ok hx => hd _ _ _ _ _ hx)⟩
theorem M_id {α : Type} {d : Kd α} : ∀ w base ok x cs, d.M w base ok x cs → d.M w base ok x cs := fun _ _ _ _ _ h => h

def s90 : Kd S90 := Kd.iso (Kd.pair (Kd.int .i64) (Kd.pair (Kd.int .i64) (Kd.pair (Kd.int .i64) (Kd.pair (Kd.int .i64) (Kd.pair (Kd.int .i64) (Kd.pair (Kd.int .u32) (spair (Kd.slice 3 (Kd.int .i64)) (Kd.slice 3 (Kd.int .i64))))))))) (fun x : S90 => (x.f0, x.f1, x.f2, x.f3, x.f4, x.f5, x.f6, x.f7))
def s74 : Kd S74 := Kd.iso (Kd.pair (Kd.int .i64) (Kd.pair (Kd.int .i64) (Kd.pair (Kd.int .i64) (Kd.pair (Kd.int .i64) (Kd.pair (Kd.int .u32) (Kd.pair (Kd.int .i64) (Kd.pair (Kd.int .i64) (spair (Kd.slice 85 k85) (Kd.slice 3 (Kd.int .i64)))))))))) (fun x : S74 => (x.f0, x.f1, x.f2, x.f3, x.f4, x.f5, x.f6, x.f7, x.f8))
def s77 : Kd S77 := Kd.iso (spair (sslice 90 s90) s74) (fun x : S77 => (x.f0, x.f1))
theorem s90_k90 : ∀ w base ok x cs, s90.M w base ok x cs → k90.M w base ok x cs :=
  fun w base ok x cs h => pair_pair M_id (pair_pair M_id (pair_pair M_id (pair_pair M_id (pair_pair M_id (pair_pair M_id (spair_pair M_id M_id)))))) w base ok _ cs h
theorem s74_k74 : ∀ w base ok x cs, s74.M w base ok x cs → k74.M w base ok x cs :=
  fun w base ok x cs h => pair_pair M_id (pair_pair M_id (pair_pair M_id (pair_pair M_id (pair_pair M_id (pair_pair M_id (pair_pair M_id (spair_pair M_id M_id))))))) w base ok _ cs h
theorem s77_k77 : ∀ w base ok x cs, s77.M w base ok x cs → k77.M w base ok x cs :=
  fun w base ok x cs h => spair_pair (a := sslice 90 s90) (b := s74) (a' := Kd.slice 90 k90) (sslice_slice (d := s90) (d' := k90) rfl s90_k90) s74_k74 w base ok _ cs h
theorem s90_K : s90.K = k90.K := rfl
theorem s77_K : s77.K = k77.K := rfl

theorem s90_open {w : World} {base : Nat} {ok : Nat → Prop} {x : S90} {cs : List Value} (h : s90.M w base ok x cs) :
    ∃ (v6 v7 : Value) (g : Nat → Bool), cs = [.int .i64 x.f0, .int .i64 x.f1, .int .i64 x.f2, .int .i64 x.f3, .int .i64 x.f4, .int .u32 x.f5, v6, v7] ∧
      (Kd.int .i64).R 3 w base (fun k => ok k ∧ g k = true) v6 x.f6 ∧ (Kd.int .i64).R 3 w base (fun k => ok k ∧ g k = false) v7 x.f7 := by
  obtain ⟨_, _, rfl, rfl, ⟨_, _, rfl, rfl, ⟨_, _, rfl, rfl, ⟨_, _, rfl, rfl, ⟨_, _, rfl, rfl, ⟨_, _, rfl, rfl, ⟨_, _, rfl, g, ⟨v6, rfl, g6⟩, ⟨v7, rfl, g7⟩⟩⟩⟩⟩⟩⟩⟩ := h
  exact ⟨v6, v7, g, rfl, g6, g7⟩
theorem s90_mk {w : World} {base : Nat} {ok ok6 ok7 : Nat → Prop} {x : S90} {v6 v7 : Value} (h6 : (Kd.int .i64).R 3 w base ok6 v6 x.f6) (h7 : (Kd.int .i64).R 3 w base ok7 v7 x.f7) (k6 : ∀ k, ok6 k → ok k) (k7 : ∀ k, ok7 k → ok k) (hd : ∀ k, ok6 k → ¬ ok7 k) :
    s90.M w base ok x [.int .i64 x.f0, .int .i64 x.f1, .int .i64 x.f2, .int .i64 x.f3, .int .i64 x.f4, .int .u32 x.f5, v6, v7] :=
  ⟨_, _, rfl, rfl, _, _, rfl, rfl, _, _, rfl, rfl, _, _, rfl, rfl, _, _, rfl, rfl, _, _, rfl, rfl, spair_mk (c0 := [v6]) (c1 := [v7]) ⟨v6, rfl, h6⟩ ⟨v7, rfl, h7⟩ k6 k7 hd⟩
theorem s77_open {w : World} {base : Nat} {ok : Nat → Prop} {x : S77} {cs : List Value} (h : s77.M w base ok x cs) :
    ∃ (v0 v8 v9 : Value) (g g2 : Nat → Bool), cs = [v0, .int .i64 x.f1.f0, .int .i64 x.f1.f1, .int .i64 x.f1.f2, .int .i64 x.f1.f3, .int .u32 x.f1.f4, .int .i64 x.f1.f5, .int .i64 x.f1.f6, v8, v9] ∧
      Kd.S s90 90 w base (fun k => ok k ∧ g k = true) v0 x.f0 ∧ k85.R 85 w base (fun k => (ok k ∧ g k = false) ∧ g2 k = true) v8 x.f1.f7 ∧ (Kd.int .i64).R 3 w base (fun k => (ok k ∧ g k = false) ∧ g2 k = false) v9 x.f1.f8 := by
  obtain ⟨_, _, rfl, g, ⟨v0, rfl, h0⟩, ⟨_, _, rfl, rfl, ⟨_, _, rfl, rfl, ⟨_, _, rfl, rfl, ⟨_, _, rfl, rfl, ⟨_, _, rfl, rfl, ⟨_, _, rfl, rfl, ⟨_, _, rfl, rfl, ⟨_, _, rfl, g2, ⟨v8, rfl, g8⟩, ⟨v9, rfl, g9⟩⟩⟩⟩⟩⟩⟩⟩⟩⟩ := h
  exact ⟨v0, v8, v9, g, g2, rfl, h0, g8, g9⟩
theorem s77_mk {w : World} {base : Nat} {ok ok0 ok8 ok9 : Nat → Prop} {x : S77} {v0 v8 v9 : Value} (h0 : Kd.S s90 90 w base ok0 v0 x.f0) (h8 : k85.R 85 w base ok8 v8 x.f1.f7) (h9 : (Kd.int .i64).R 3 w base ok9 v9 x.f1.f8)
    (k0 : ∀ k, ok0 k → ok k) (k8 : ∀ k, ok8 k → ok k) (k9 : ∀ k, ok9 k → ok k) (d08 : ∀ k, ok0 k → ¬ ok8 k) (d09 : ∀ k, ok0 k → ¬ ok9 k) (d89 : ∀ k, ok8 k → ¬ ok9 k) :
    s77.M w base ok x [v0, .int .i64 x.f1.f0, .int .i64 x.f1.f1, .int .i64 x.f1.f2, .int .i64 x.f1.f3, .int .u32 x.f1.f4, .int .i64 x.f1.f5, .int .i64 x.f1.f6, v8, v9] := by
  refine spair_mk (a := sslice 90 s90) (b := s74) (x := (x.f0, x.f1)) (ok1 := ok0) (ok2 := fun k => ok8 k ∨ ok9 k) (c0 := [v0]) (c1 := [.int .i64 x.f1.f0, .int .i64 x.f1.f1, .int .i64 x.f1.f2, .int .i64 x.f1.f3, .int .u32 x.f1.f4, .int .i64 x.f1.f5, .int .i64 x.f1.f6, v8, v9]) ⟨v0, rfl, h0⟩ ?_ k0 (fun k hk => hk.elim (k8 k) (k9 k)) (fun k h1 h2 => h2.elim (d08 k h1) (d09 k h1))
  exact ⟨_, _, rfl, rfl, _, _, rfl, rfl, _, _, rfl, rfl, _, _, rfl, rfl, _, _, rfl, rfl, _, _, rfl, rfl, _, _, rfl, rfl, spair_mk (c0 := [v8]) (c1 := [v9]) ⟨v8, rfl, h8⟩ ⟨v9, rfl, h9⟩ (fun k hk => .inl hk) (fun k hk => .inr hk) d89⟩
end Go.Proofs.Ytocdebfbpfmnnaa.Pr
namespace Go.Proofs.Ytocdebfbpfmnnaa.Pr
open Go.RowKit Go.Proofs.YtocdebfbpfmnnaaW.PrintWords Go.Proofs.YtocdebfbpfmnnaaW.PrintLast Go.Proofs.YtocdebfbpfmnnaaW.PrintMore
set_option linter.unusedVariables false

def CodeInv (w0 : World) (xs : List S90) (N gC cap q : Nat) (w : World) : Prop :=
  ∃ (f : Nat → Nat) (cells : List Value), w.ownsRow N 90 8 (.slice (some ⟨gC, 0, none⟩) xs.length cap) xs.length cells ∧
    ∀ j x, xs[j]? = some x → (j < q → s90.M w N (fun k => k ≠ gC ∧ f k = j) x ((cells.drop (j * 8)).take 8)) ∧ (q ≤ j → k90.K w0 x ((cells.drop (j * 8)).take 8))

/-- Instructions, as they read in one world. -/
def kAt (w0 : World) : Kd S90 where
  sz := 8
  E := []
  K := fun _ x cs => k90.K w0 x cs
  M := fun _ _ _ x cs => k90.K w0 x cs
  K_len := fun h => k90.K_len h
  K_one := fun h => k90.K_one h
  K_below := fun _ h => h
  K_of_M := fun h => h
  M_mono := fun _ h => h
  M_bound := fun h => h
  M_move := fun _ h => h
  M_lower := fun _ h => h
theorem kAt_C {w0 w : World} {A : Option Addr} {n : Nat} {xs : List S90} (h : k90.C w0 A n xs) (hb : Below w0.heap.size w0 w) : (kAt w0).C w A n xs := ReadsRow.imp_ h hb (fun _ _ h => h)
theorem CodeInv.start {w0 w : World} {xs : List S90} {N gC cap : Nat} {cells : List Value} (ho : w.ownsRow N 90 8 (.slice (some ⟨gC, 0, none⟩) xs.length cap) xs.length cells) (hr : Reps (k90.K w0) 8 xs cells) : CodeInv w0 xs N gC cap 0 w :=
  ⟨fun _ => 0, cells, ho, fun j x hx => ⟨fun h => absurd h (Nat.not_lt_zero _), fun _ => hr.2 j x hx⟩⟩
theorem CodeInv.lt {w0 w : World} {xs : List S90} {N gC cap q : Nat} (h : CodeInv w0 xs N gC cap q w) : N ≤ gC ∧ gC < w.heap.size := by
  obtain ⟨f, cells, ho, _⟩ := h
  exact ⟨own_base ho gC rfl, own_lt ho gC rfl⟩
theorem CodeInv.below {w0 w w' : World} {xs : List S90} {N gC cap q : Nat} (h : CodeInv w0 xs N gC cap q w) (hb : Below w.heap.size w w') : CodeInv w0 xs N gC cap q w' := by
  obtain ⟨f, cells, ho, hm⟩ := h
  refine ⟨f, cells, pw_own_below ho hb, fun j x hx => ⟨fun hj => ?_, (hm j x hx).2⟩⟩
  exact s90.M_mono (fun _ hk => hk.1) (s90.M_move (fun k hk => hb.block k hk.2.2.1) (s90.M_bound ((hm j x hx).1 hj)))
/-- Below a mark alone. -/
theorem CodeInv.cells {w0 w : World} {xs : List S90} {N gC cap q : Nat} (h : CodeInv w0 xs N gC cap q w) (hq : q < xs.length) :
    ∃ A6 c6 A7 c7, xs[q].f6.length ≤ c6 ∧ (Kd.int .i64).C w0 A6 xs[q].f6.length xs[q].f6 ∧ xs[q].f7.length ≤ c7 ∧ (Kd.int .i64).C w0 A7 xs[q].f7.length xs[q].f7 ∧
      w.cell? ⟨gC, q * 8 + 6, none⟩ = some (.slice A6 xs[q].f6.length c6) ∧ w.cell? ⟨gC, q * 8 + 7, none⟩ = some (.slice A7 xs[q].f7.length c7) ∧ w.frozen? ⟨gC, q * 8 + 6, none⟩ = false ∧ w.frozen? ⟨gC, q * 8 + 7, none⟩ = false := by
  obtain ⟨f, cells, ho, hm⟩ := h
  have hK := (hm q xs[q] (List.getElem?_eq_getElem hq)).2 (Nat.le_refl _)
  obtain ⟨A6, c6, A7, c7, he, l6, g6, l7, g7⟩ := k90_open hK
  have hc := ho.cells (g := gC) rfl
  have get : ∀ i u, ((cells.drop (q * 8)).take 8)[i]? = some u → w.cell? ⟨gC, q * 8 + i, none⟩ = some u := by
    intro i u hu
    rw [List.getElem?_take] at hu
    split at hu
    · rw [List.getElem?_drop] at hu
      have := hc _ _ hu
      rwa [add_plain] at this
    · cases hu
  have fr : ∀ i, w.frozen? ⟨gC, i, none⟩ = false := by
    intro i
    rcases ho.2 with ⟨h', _⟩ | ⟨g', cap', cur, h', _, hh, _⟩
    · cases h'
    · have : gC = g' := by injection h' with h'; injection h' with h'; injection h' with h'
      subst this
      simp [World.frozen?, hh]
  rw [he] at get
  exact ⟨A6, c6, A7, c7, l6, g6, l7, g7, get 6 _ rfl, get 7 _ rfl, fr _, fr _⟩
theorem CodeInv.step {w0 wq w : World} {xs : List S90} {N gC cap q N7 : Nat} (h : CodeInv w0 xs N gC cap q wq) (hq : q < xs.length) (hb : Below wq.heap.size wq w) (hN : N ≤ wq.heap.size) (h7 : wq.heap.size ≤ N7) {v6 v7 : Value}
    (r6 : (Kd.int .i64).R 3 w N (fun k => wq.heap.size ≤ k ∧ k < N7) v6 xs[q].f6) (r7 : (Kd.int .i64).R 3 w N (fun k => N7 ≤ k) v7 xs[q].f7) :
    CodeInv w0 xs N gC cap (q + 1) ((w.setCell ⟨gC, q * 8 + 6, none⟩ v6).setCell ⟨gC, q * 8 + 7, none⟩ v7) := by
  have hlt := h.lt
  obtain ⟨f, cells, ho, hm⟩ := h
  have ho' := pw_own_below ho hb
  have o6 := ho'.stored (q * 8 + 6) v6
  have o7 := o6.1.stored (q * 8 + 7) v7
  have hlen := ho.1
  have hK := (hm q xs[q] (List.getElem?_eq_getElem hq)).2 (Nat.le_refl _)
  obtain ⟨A6, c6, A7, c7, he, _, _, _, _⟩ := k90_open hK
  have far : ∀ {d : Nat} {ok : Nat → Prop} {v : Value} {ys : List Int}, (Kd.int .i64).R 3 w N ok v ys → (∀ k, ok k → wq.heap.size ≤ k) → (Kd.int .i64).R 3 ((w.setCell ⟨gC, q * 8 + 6, none⟩ v6).setCell ⟨gC, q * 8 + 7, none⟩ v7) N ok v ys := by
    intro d ok v ys hr hk
    exact Kd.R_far (Kd.R_far hr (fun k hk' e => by have := hk k hk'; simp only at e; omega) v6) (fun k hk' e => by have := hk k hk'; simp only at e; omega) v7
  refine ⟨fun k => if k < wq.heap.size then f k else q, _, o7.1, fun j x hx => ⟨fun hj => ?_, fun hj => ?_⟩⟩
  · rcases Nat.lt_or_ge j q with hjq | hjq
    · have hM := (hm j x hx).1 hjq
      have e1 : ((((cells.set (q * 8 + 6) v6).set (q * 8 + 7) v7).drop (j * 8)).take 8) = (cells.drop (j * 8)).take 8 := by
        apply List.ext_getElem?
        intro i
        simp only [List.getElem?_take, List.getElem?_drop]
        split
        · rw [List.getElem?_set_ne (by omega), List.getElem?_set_ne (by omega)]
        · rfl
      rw [e1]
      have hM2 := s90.M_move (w1 := w) (fun k hk => hb.block k hk.2.2.1) (s90.M_bound hM)
      have hM3 : s90.M w N (fun k => k ≠ gC ∧ (if k < wq.heap.size then f k else q) = j) x ((cells.drop (j * 8)).take 8) := s90.M_mono (fun k hk => ⟨hk.1.1, by rw [if_pos hk.2.2.1]; exact hk.1.2⟩) hM2
      exact s90.M_move (fun k hk => by rw [Below.heap_setCell _ ⟨gC, q * 8 + 7, none⟩ v7 k hk.1, Below.heap_setCell _ ⟨gC, q * 8 + 6, none⟩ v6 k hk.1]) hM3
    · obtain rfl : j = q := by omega
      obtain rfl : x = xs[j] := by rw [List.getElem?_eq_getElem hq] at hx; injection hx with hx; exact hx.symm
      have e1 : ((((cells.set (j * 8 + 6) v6).set (j * 8 + 7) v7).drop (j * 8)).take 8) = [.int .i64 xs[j].f0, .int .i64 xs[j].f1, .int .i64 xs[j].f2, .int .i64 xs[j].f3, .int .i64 xs[j].f4, .int .u32 xs[j].f5, v6, v7] := by
        have hl8 : j * 8 + 8 ≤ cells.length := by rw [hlen]; omega
        have e2 : ((((cells.set (j * 8 + 6) v6).set (j * 8 + 7) v7).drop (j * 8)).take 8) = (((cells.drop (j * 8)).take 8).set 6 v6).set 7 v7 := by
          rw [List.drop_set, if_neg (by omega), List.drop_set, if_neg (by omega), show j * 8 + 7 - j * 8 = 7 by omega, show j * 8 + 6 - j * 8 = 6 by omega, List.take_set, List.take_set]
        rw [e2, he]; rfl
      rw [e1]
      refine s90_mk (ok6 := fun k => wq.heap.size ≤ k ∧ k < N7) (ok7 := fun k => N7 ≤ k) (far (d := 0) r6 (fun k hk => hk.1)) (far (d := 0) r7 (fun k hk => Nat.le_trans h7 hk)) ?_ ?_ ?_
      · intro k hk
        exact ⟨by omega, if_neg (by omega)⟩
      · intro k hk
        exact ⟨by omega, if_neg (by omega)⟩
      · intro k h1 h2
        omega
  · have hK := (hm j x hx).2 (by omega)
    have e1 : ((((cells.set (q * 8 + 6) v6).set (q * 8 + 7) v7).drop (j * 8)).take 8) = (cells.drop (j * 8)).take 8 := by
      apply List.ext_getElem?
      intro i
      simp only [List.getElem?_take, List.getElem?_drop]
      split
      · rw [List.getElem?_set_ne (by omega), List.getElem?_set_ne (by omega)]
      · rfl
    rw [e1]; exact hK
theorem CodeInv.done {w0 w : World} {xs : List S90} {N gC cap q : Nat} (h : CodeInv w0 xs N gC cap q w) (hq : xs.length ≤ q) : Kd.S s90 90 w N (fun k => N ≤ k) (.slice (some ⟨gC, 0, none⟩) xs.length cap) xs := by
  have hlt := h.lt
  obtain ⟨f, cells, ho, hm⟩ := h
  refine ⟨f, fun k hk => ?_, cells, by rw [List.length_zipIdx]; exact ho, by rw [List.length_zipIdx]; exact ho.1, fun j p hj => ?_⟩
  · have : k = gC := by simpa [Value.ownBlock] using hk.symm
    rw [this]; exact hlt.1
  · rw [List.getElem?_zipIdx, Nat.zero_add] at hj
    obtain ⟨x, hx, rfl⟩ := Option.map_eq_some_iff.1 hj
    have hjl : j < xs.length := by
      rcases Nat.lt_or_ge j xs.length with h | h
      · exact h
      · rw [List.getElem?_eq_none h] at hx; cases hx
    have hM := s90.M_bound ((hm j x hx).1 (by omega))
    exact s90.M_mono (fun k hk => ⟨⟨hk.2.1, fun e => hk.1.1 (by simpa [Value.ownBlock] using e)⟩, hk.1.2⟩) hM
/-- The same for any value of a row, the empty ones with it. -/
def CodeV (w0 : World) (xs : List S90) (N : Nat) (v : Value) (q : Nat) (w : World) : Prop :=
  (∃ gC cap, v = .slice (some ⟨gC, 0, none⟩) xs.length cap ∧ CodeInv w0 xs N gC cap q w) ∨ (xs = [] ∧ w.ownsRow N 90 8 v 0 [])
theorem CodeV.start {w0 w : World} {xs : List S90} {N : Nat} {v : Value} {cells : List Value} (ho : w.ownsRow N 90 8 v xs.length cells) (hr : Reps (k90.K w0) 8 xs cells) : CodeV w0 xs N v 0 w := by
  have ho' := ho
  rcases ho.2 with ⟨rfl, hn⟩ | ⟨g, cap, cur, rfl, _⟩
  · obtain rfl : xs = [] := List.eq_nil_of_length_eq_zero hn
    exact .inr ⟨rfl, own_nil _ _ _ _⟩
  · exact .inl ⟨g, cap, rfl, CodeInv.start ho' hr⟩
theorem CodeV.below {w0 w w' : World} {xs : List S90} {N q : Nat} {v : Value} (h : CodeV w0 xs N v q w) (hb : Below w.heap.size w w') : CodeV w0 xs N v q w' := by
  rcases h with ⟨gC, cap, rfl, h⟩ | ⟨rfl, h⟩
  · exact .inl ⟨gC, cap, rfl, h.below hb⟩
  · exact .inr ⟨rfl, pw_own_below h hb⟩
theorem CodeV.done {w0 w : World} {xs : List S90} {N q : Nat} {v : Value} (h : CodeV w0 xs N v q w) (hq : xs.length ≤ q) : Kd.S s90 90 w N (fun k => N ≤ k) v xs := by
  rcases h with ⟨gC, cap, rfl, h⟩ | ⟨rfl, h⟩
  · exact h.done hq
  · exact ⟨fun _ => 0, fun k hk => own_base h k hk, [], h, Reps.none _ _⟩
theorem CodeInv.far {w0 w : World} {xs : List S90} {N gC cap q B : Nat} (h : CodeInv w0 xs N gC cap q w) (hB : B < N) (j : Nat) (u : Value) : CodeInv w0 xs N gC cap q (w.setCell ⟨B, j, none⟩ u) := by
  have hlt := h.lt
  obtain ⟨f, cells, ho, hm⟩ := h
  refine ⟨f, cells, own_setCell ho (by simp [Value.ownBlock]; omega) u, fun j' x hx => ⟨fun hj => ?_, (hm j' x hx).2⟩⟩
  exact s90.M_mono (fun _ hk => hk.1) (s90.M_move (fun k hk => Below.heap_setCell _ ⟨B, j, none⟩ u k (by have := hk.2.1; simp only; omega)) (s90.M_bound ((hm j' x hx).1 hj)))
theorem CodeV.far {w0 w : World} {xs : List S90} {N q B : Nat} {v : Value} (h : CodeV w0 xs N v q w) (hB : B < N) (j : Nat) (u : Value) : CodeV w0 xs N v q (w.setCell ⟨B, j, none⟩ u) := by
  rcases h with ⟨gC, cap, rfl, h⟩ | ⟨rfl, h⟩
  · exact .inl ⟨gC, cap, rfl, h.far hB j u⟩
  · refine .inr ⟨rfl, own_setCell h ?_ u⟩
    intro e
    have := own_base h B e.symm
    omega
end Go.Proofs.Ytocdebfbpfmnnaa.Pr
namespace Go.Proofs.Ytocdebfbpfmnnaa.Pr
open Go.RowKit Go.Proofs.YtocdebfbpfmnnaaW.PrintWords Go.Proofs.YtocdebfbpfmnnaaW.PrintLast Go.Proofs.YtocdebfbpfmnnaaW.PrintMore
set_option linter.unusedVariables false
set_option linter.unusedSimpArgs false
section
variable {P : Program} {ops : Array Oper} {rest : List Oper} {o : Oper} {a : Act} {Q : Exit → Act → World → Prop}
theorem append_raw {w0 W : World} (base : Nat) (hgd : o.guard = none) (s x : Operand) (t e : TypeId) (z : Value) (size bytes : Nat)
    (ho : o.op = .call { callee := .builtin .append, args := #[s, x], argTypes := #[t, t] })
    (ht : P.underlying t = some (.slice e)) (hinfo : (P.info? e).map (fun i => (i.zero, i.size, i.bytes)) = some (some z, size, bytes)) (hz : z.cells.size = size) (hs0 : 0 < size) (hb0 : 0 < bytes)
    (v : Value) (n : Nat) (xs cells : List Value) (A : Option Addr) (m c : Nat) (hs : a.eval s = v) (hx : a.eval x = .slice A m c)
    (HO : W.ownsRow base e size v n xs) (hlen : cells.length = m * size) (hread : 0 < m → ∃ ad, A = some ad ∧ ∀ j u, cells[j]? = some u → W.cell? (ad.add j) = some u) (h1 : ∀ u ∈ cells, u.oneCell' = true)
    (HB : Below base w0 W) (hbase : base ≤ W.heap.size) (hl : (n + m) * bytes ≤ 140737488355328)
    (h : ∀ v1 w1, w1.ownsRow base e size v1 (n + m) (xs ++ cells) → Below base w0 w1 → wpList P ops Q rest (a.put o.dst v1) w1) : wpList P ops Q (o :: rest) a W := by
  obtain ⟨i0, hi, hzz⟩ := Option.map_eq_some_iff.1 hinfo
  simp only [Prod.mk.injEq] at hzz
  obtain ⟨hz0, hz1, hz2⟩ := hzz
  have hmx : n + m ≤ 140737488355328 := Nat.le_trans (Nat.le_mul_of_pos_right _ hb0) hl
  have hrun : ∃ v1 w1, (Builtin.append_ #[t, t] o.type #[v, .slice A m c]).run P W = .ok v1 w1 ∧ w1.ownsRow base e size v1 (n + m) (xs ++ cells) ∧ W.grownBy w1 v.ownBlock := by
    rcases A with _ | ad
    · have h0 : m = 0 := by
        rcases Nat.eq_zero_or_pos m with h0 | h0
        · exact h0
        · obtain ⟨ad, h, _⟩ := hread h0
          cases h
      subst h0
      obtain rfl : cells = [] := List.eq_nil_of_length_eq_zero (by omega)
      refine ⟨v, W, ?_, by simpa using HO, World.grownBy.refl W _⟩
      rcases HO.2 with ⟨rfl, hn⟩ | ⟨g, cap, cur, rfl, _, _, hnc, _⟩
      · simp [Builtin.append_, run_underlying ht, sizeOf, typeInfo, hi, Builtin.lenOf, Builtin.firstCells]
      · simp [Builtin.append_, run_underlying ht, sizeOf, typeInfo, hi, Builtin.lenOf, Builtin.firstCells, hnc, storeCells]
    · have hcells : ∀ j u, cells[j]? = some u → W.cell? (ad.add j) = some u := by
        intro j u hu
        have hj : j < cells.length := by
          rcases Nat.lt_or_ge j cells.length with h | h
          · exact h
          · rw [List.getElem?_eq_none h] at hu; cases hu
        have hm : 0 < m := by
          rcases Nat.eq_zero_or_pos m with h0 | h0
          · rw [h0, Nat.zero_mul] at hlen; omega
          · exact h0
        obtain ⟨ad', h', hc⟩ := hread hm
        injection h' with h'
        subst h'
        exact hc j u hu
      obtain ⟨v1, w1, hr, h2, h3, _, h5⟩ := run_append_own_at (P := P) W base t o.type e i0 z size bytes ht hi hz0 hz1 hz2 hz hs0 v n xs HO ad m c cells hlen hcells h1 (by simp only [maxLen]; omega) hl hbase
      exact ⟨v1, w1, hr, h2, h3⟩
  obtain ⟨v1, w1, hr, hown, hg⟩ := hrun
  refine wpList_plain hgd fun K hK => ?_
  unfold Oper.wp execOp
  simp only [ho, resolve, invoke, builtin, Sem.run_bind, Sem.run_pure, Result.andThen_ok, List.map_toArray, List.map_cons, List.map_nil, hs, hx, hr]
  exact hK _ _ (h v1 w1 hown (HB.grown hg hbase (own_base HO)))
end
/-- The cells of a row that is read. -/
theorem row_cells {α : Type} {R : α → List Value → Prop} {size : Nat} {w : World} {A : Option Addr} {n : Nat} {ps : List α} (h : ReadsRow R size w A n ps) :
    ∃ cells, Reps R size ps cells ∧ (0 < n → ∃ ad, A = some ad ∧ ∀ j u, cells[j]? = some u → w.cell? (ad.add j) = some u) := by
  obtain ⟨hn, hm, hr⟩ := h
  rcases Nat.eq_zero_or_pos n with h0 | h0
  · obtain rfl : ps = [] := List.eq_nil_of_length_eq_zero (by omega)
    exact ⟨[], Reps.none _ _, fun h => absurd h (by omega)⟩
  obtain ⟨ad, hA, hc⟩ := hr h0
  have key : ∀ m, m ≤ ps.length → ∃ cells, Reps R size (ps.take m) cells ∧ ∀ j u, cells[j]? = some u → w.cell? (ad.add j) = some u := by
    intro m
    induction m with
    | zero => exact fun _ => ⟨[], by rw [List.take_zero]; exact Reps.none _ _, fun j u h => by simp at h⟩
    | succ m ih =>
      intro hm
      obtain ⟨cells, hR, hcs⟩ := ih (by omega)
      have hlt : m < ps.length := by omega
      obtain ⟨c, hcl, hRc, hcc⟩ := hc m ps[m] (List.getElem?_eq_getElem hlt)
      refine ⟨cells ++ c, by rw [List.take_succ_eq_append_getElem hlt]; exact hR.snoc hRc hcl, fun j u hu => ?_⟩
      have hl : cells.length = m * size := by rw [hR.1, List.length_take]; congr 1; omega
      rw [List.getElem?_append] at hu
      split at hu
      · exact hcs j u hu
      · have := hcc (j - cells.length) u hu
        rwa [show m * size + (j - cells.length) = j by omega] at this
  obtain ⟨cells, hR, hcs⟩ := key ps.length (Nat.le_refl _)
  rw [List.take_of_length_le (Nat.le_refl _)] at hR
  exact ⟨cells, hR, fun _ => ⟨ad, hA, hcs⟩⟩
theorem C_cells {α : Type} {d : Kd α} {w : World} {A : Option Addr} {xs : List α} (h : d.C w A xs.length xs) :
    ∃ cells, Reps (d.K w) d.sz xs cells ∧ cells.length = xs.length * d.sz ∧ (∀ u ∈ cells, u.oneCell' = true) ∧ (0 < xs.length → ∃ ad, A = some ad ∧ ∀ j u, cells[j]? = some u → w.cell? (ad.add j) = some u) := by
  obtain ⟨cells, hR, hc⟩ := row_cells h
  refine ⟨cells, hR, hR.1, fun u hu => ?_, hc⟩
  obtain ⟨j, hj, rfl⟩ := List.getElem_of_mem hu
  have hl := hR.1
  have hsz : 0 < d.sz := by
    rcases Nat.eq_zero_or_pos d.sz with h0 | h0
    · rw [h0, Nat.mul_zero] at hl; omega
    · exact h0
  have hq : j / d.sz < xs.length := by
    rw [Nat.div_lt_iff_lt_mul hsz, ← hl]; exact hj
  have hK := hR.2 (j / d.sz) xs[j / d.sz] (List.getElem?_eq_getElem hq)
  refine d.K_one hK _ ?_
  have hmod := Nat.div_add_mod' j d.sz
  have hlt := Nat.mod_lt j hsz
  rw [List.mem_iff_getElem?]
  refine ⟨j % d.sz, ?_⟩
  rw [List.getElem?_take, if_pos hlt, List.getElem?_drop, hmod, List.getElem?_eq_getElem hj]
end Go.Proofs.Ytocdebfbpfmnnaa.Pr
namespace Go.Proofs.Ytocdebfbpfmnnaa.Pr
open Go.RowKit Go.Proofs.YtocdebfbpfmnnaaW.PrintWords Go.Proofs.YtocdebfbpfmnnaaW.PrintLast Go.Proofs.YtocdebfbpfmnnaaW.PrintMore
set_option linter.unusedVariables false
set_option linter.unusedSimpArgs false

theorem infoC55 : (Try.prog.info? 55).map (fun i => (i.zero, i.size, i.bytes)) = some (some (.int .u32 0), 1, 4) := by kernel_rfl
set_option maxRecDepth 100000 in
theorem Clone69.raw (A : Option Addr) (c : Nat) {α : Type} {d : Kd α} (hd : d.sz = 1) (xs : List α) (w : World) (hr : d.C w A xs.length xs) (hc : xs.length ≤ c) (hl : xs.length * 4 ≤ 140737488355328) :
    Calls Try.prog 69 #[.slice A xs.length c] w fun e w' => ∃ v cells, e = .returned v ∧ w'.ownsRow w.heap.size 55 1 v xs.length cells ∧ Reps (d.K w) 1 xs cells ∧ Below w.heap.size w w' := by
  obtain ⟨cells, hR, hlen, hone, hread⟩ := C_cells hr
  rw [hd] at hR hlen
  have HR := Aside0.mk hR
  have HL := Aside0.mk hlen
  have HO := Aside0.mk hone
  have HD := Aside0.mk hread
  have HLL := Aside0.mk hl
  clear hR hlen hone hread hl hr hc hd
  have qT : ∀ (w : World) (a : Option Addr) (n c n' c' : Nat), (binOp .eql 47 (.slice a n c) (.slice none n' c')).run Try.prog w = .ok (.bool a.isNone) w := fun w a n c n' c' => Lib.run_eql_slice_nil w _ _ a n c n' c' Try.underlying47
  rcases A with _ | ad
  · go_enter Try.func69, Try.ntmps69
    go_wp2
    go_ret
    have h0 : xs.length = 0 := by
      rcases Nat.eq_zero_or_pos xs.length with h0 | h0
      · exact h0
      · obtain ⟨ad, h, _⟩ := HD.out h0
        cases h
    obtain rfl : xs = [] := List.eq_nil_of_length_eq_zero h0
    exact ⟨_, [], rfl, own_nil _ _ _ _, Reps.none _ _, Below.refl _ _⟩
  · go_enter Try.func69, Try.ntmps69
    go_wp2_with (first
      | (at_builtin; refine append_raw (w0 := w) w.heap.size rfl _ _ 47 55 (.int .u32 0) 1 4 rfl Try.underlying47 infoC55 rfl (by decide) (by decide) _ 0 [] cells (some ad) xs.length c rfl rfl ⟨by simp, .inr ⟨_, 0, #[], rfl, Nat.le_refl _, heap_alloc_new _ _, Nat.le_refl _, Nat.zero_le _, by simp, by simp⟩⟩ HL.out (fun hp => by obtain ⟨ad', h', hcc⟩ := HD.out hp; exact ⟨ad', h', fun j u hu => ((below_alloc (Below.refl _ _) _).cell (World.block_lt_of_cell? _ _ (hcc j u hu))).trans (hcc j u hu)⟩) HO.out (below_alloc (Below.refl _ _) _) (below_alloc (Below.refl _ _) _).size (by have := HLL.out; omega) ?_; intro v1 w1 hown hB; have HOW := Aside0.mk hown; have HB := Aside0.mk hB; clear hown hB)
      | fail)
    go_ret
    have h := HOW.out
    rw [List.nil_append, Nat.zero_add] at h
    exact ⟨_, cells, rfl, h, HR.out, HB.out⟩

theorem Clone69.calls (A : Option Addr) (c : Nat) (xs : List Int) (w : World) (hr : (Kd.int .u32).C w A xs.length xs) (hc : xs.length ≤ c) (hl : xs.length * 4 ≤ 140737488355328) :
    Calls Try.prog 69 #[.slice A xs.length c] w fun e w' => ∃ v, e = .returned v ∧ (Kd.int .u32).R 55 w' w.heap.size (fun _ => True) v xs ∧ Below w.heap.size w w' := by
  refine (Clone69.raw A c (d := (Kd.int .u32)) rfl xs w hr hc hl).mono ?_
  rintro e w' ⟨v, cells, rfl, ho, hR, hB⟩
  exact ⟨v, rfl, ⟨fun _ _ => trivial, cells, ho, hR.imp_ (fun _ _ h => h)⟩, hB⟩

theorem infoC3 : (Try.prog.info? 3).map (fun i => (i.zero, i.size, i.bytes)) = some (some (.int .i64 0), 1, 8) := by kernel_rfl
set_option maxRecDepth 100000 in
theorem Clone70.raw (A : Option Addr) (c : Nat) {α : Type} {d : Kd α} (hd : d.sz = 1) (xs : List α) (w : World) (hr : d.C w A xs.length xs) (hc : xs.length ≤ c) (hl : xs.length * 8 ≤ 140737488355328) :
    Calls Try.prog 70 #[.slice A xs.length c] w fun e w' => ∃ v cells, e = .returned v ∧ w'.ownsRow w.heap.size 3 1 v xs.length cells ∧ Reps (d.K w) 1 xs cells ∧ Below w.heap.size w w' := by
  obtain ⟨cells, hR, hlen, hone, hread⟩ := C_cells hr
  rw [hd] at hR hlen
  have HR := Aside0.mk hR
  have HL := Aside0.mk hlen
  have HO := Aside0.mk hone
  have HD := Aside0.mk hread
  have HLL := Aside0.mk hl
  clear hR hlen hone hread hl hr hc hd
  have qT : ∀ (w : World) (a : Option Addr) (n c n' c' : Nat), (binOp .eql 22 (.slice a n c) (.slice none n' c')).run Try.prog w = .ok (.bool a.isNone) w := fun w a n c n' c' => Lib.run_eql_slice_nil w _ _ a n c n' c' Try.underlying22
  rcases A with _ | ad
  · go_enter Try.func70, Try.ntmps70
    go_wp2
    go_ret
    have h0 : xs.length = 0 := by
      rcases Nat.eq_zero_or_pos xs.length with h0 | h0
      · exact h0
      · obtain ⟨ad, h, _⟩ := HD.out h0
        cases h
    obtain rfl : xs = [] := List.eq_nil_of_length_eq_zero h0
    exact ⟨_, [], rfl, own_nil _ _ _ _, Reps.none _ _, Below.refl _ _⟩
  · go_enter Try.func70, Try.ntmps70
    go_wp2_with (first
      | (at_builtin; refine append_raw (w0 := w) w.heap.size rfl _ _ 22 3 (.int .i64 0) 1 8 rfl Try.underlying22 infoC3 rfl (by decide) (by decide) _ 0 [] cells (some ad) xs.length c rfl rfl ⟨by simp, .inr ⟨_, 0, #[], rfl, Nat.le_refl _, heap_alloc_new _ _, Nat.le_refl _, Nat.zero_le _, by simp, by simp⟩⟩ HL.out (fun hp => by obtain ⟨ad', h', hcc⟩ := HD.out hp; exact ⟨ad', h', fun j u hu => ((below_alloc (Below.refl _ _) _).cell (World.block_lt_of_cell? _ _ (hcc j u hu))).trans (hcc j u hu)⟩) HO.out (below_alloc (Below.refl _ _) _) (below_alloc (Below.refl _ _) _).size (by have := HLL.out; omega) ?_; intro v1 w1 hown hB; have HOW := Aside0.mk hown; have HB := Aside0.mk hB; clear hown hB)
      | fail)
    go_ret
    have h := HOW.out
    rw [List.nil_append, Nat.zero_add] at h
    exact ⟨_, cells, rfl, h, HR.out, HB.out⟩

theorem Clone70.calls (A : Option Addr) (c : Nat) (xs : List Int) (w : World) (hr : (Kd.int .i64).C w A xs.length xs) (hc : xs.length ≤ c) (hl : xs.length * 8 ≤ 140737488355328) :
    Calls Try.prog 70 #[.slice A xs.length c] w fun e w' => ∃ v, e = .returned v ∧ (Kd.int .i64).R 3 w' w.heap.size (fun _ => True) v xs ∧ Below w.heap.size w w' := by
  refine (Clone70.raw A c (d := (Kd.int .i64)) rfl xs w hr hc hl).mono ?_
  rintro e w' ⟨v, cells, rfl, ho, hR, hB⟩
  exact ⟨v, rfl, ⟨fun _ _ => trivial, cells, ho, hR.imp_ (fun _ _ h => h)⟩, hB⟩

theorem infoC79 : (Try.prog.info? 79).map (fun i => (i.zero, i.size, i.bytes)) = some (some (.agg #[(.int .i64 0), (.int .i64 0)]), 2, 16) := by kernel_rfl
set_option maxRecDepth 100000 in
theorem Clone71.raw (A : Option Addr) (c : Nat) {α : Type} {d : Kd α} (hd : d.sz = 2) (xs : List α) (w : World) (hr : d.C w A xs.length xs) (hc : xs.length ≤ c) (hl : xs.length * 16 ≤ 140737488355328) :
    Calls Try.prog 71 #[.slice A xs.length c] w fun e w' => ∃ v cells, e = .returned v ∧ w'.ownsRow w.heap.size 79 2 v xs.length cells ∧ Reps (d.K w) 2 xs cells ∧ Below w.heap.size w w' := by
  obtain ⟨cells, hR, hlen, hone, hread⟩ := C_cells hr
  rw [hd] at hR hlen
  have HR := Aside0.mk hR
  have HL := Aside0.mk hlen
  have HO := Aside0.mk hone
  have HD := Aside0.mk hread
  have HLL := Aside0.mk hl
  clear hR hlen hone hread hl hr hc hd
  have qT : ∀ (w : World) (a : Option Addr) (n c n' c' : Nat), (binOp .eql 23 (.slice a n c) (.slice none n' c')).run Try.prog w = .ok (.bool a.isNone) w := fun w a n c n' c' => Lib.run_eql_slice_nil w _ _ a n c n' c' Try.underlying23
  rcases A with _ | ad
  · go_enter Try.func71, Try.ntmps71
    go_wp2
    go_ret
    have h0 : xs.length = 0 := by
      rcases Nat.eq_zero_or_pos xs.length with h0 | h0
      · exact h0
      · obtain ⟨ad, h, _⟩ := HD.out h0
        cases h
    obtain rfl : xs = [] := List.eq_nil_of_length_eq_zero h0
    exact ⟨_, [], rfl, own_nil _ _ _ _, Reps.none _ _, Below.refl _ _⟩
  · go_enter Try.func71, Try.ntmps71
    go_wp2_with (first
      | (at_builtin; refine append_raw (w0 := w) w.heap.size rfl _ _ 23 79 (.agg #[(.int .i64 0), (.int .i64 0)]) 2 16 rfl Try.underlying23 infoC79 rfl (by decide) (by decide) _ 0 [] cells (some ad) xs.length c rfl rfl ⟨by simp, .inr ⟨_, 0, #[], rfl, Nat.le_refl _, heap_alloc_new _ _, Nat.le_refl _, Nat.zero_le _, by simp, by simp⟩⟩ HL.out (fun hp => by obtain ⟨ad', h', hcc⟩ := HD.out hp; exact ⟨ad', h', fun j u hu => ((below_alloc (Below.refl _ _) _).cell (World.block_lt_of_cell? _ _ (hcc j u hu))).trans (hcc j u hu)⟩) HO.out (below_alloc (Below.refl _ _) _) (below_alloc (Below.refl _ _) _).size (by have := HLL.out; omega) ?_; intro v1 w1 hown hB; have HOW := Aside0.mk hown; have HB := Aside0.mk hB; clear hown hB)
      | fail)
    go_ret
    have h := HOW.out
    rw [List.nil_append, Nat.zero_add] at h
    exact ⟨_, cells, rfl, h, HR.out, HB.out⟩

theorem Clone71.calls (A : Option Addr) (c : Nat) (xs : List S79) (w : World) (hr : k79.C w A xs.length xs) (hc : xs.length ≤ c) (hl : xs.length * 16 ≤ 140737488355328) :
    Calls Try.prog 71 #[.slice A xs.length c] w fun e w' => ∃ v, e = .returned v ∧ k79.R 79 w' w.heap.size (fun _ => True) v xs ∧ Below w.heap.size w w' := by
  refine (Clone71.raw A c (d := k79) rfl xs w hr hc hl).mono ?_
  rintro e w' ⟨v, cells, rfl, ho, hR, hB⟩
  exact ⟨v, rfl, ⟨fun _ _ => trivial, cells, ho, hR.imp_ (fun _ _ h => h)⟩, hB⟩

theorem infoC90 : (Try.prog.info? 90).map (fun i => (i.zero, i.size, i.bytes)) = some (some (.agg #[(.int .i64 0), (.int .i64 0), (.int .i64 0), (.int .i64 0), (.int .i64 0), (.int .u32 0), (.slice none 0 0), (.slice none 0 0)]), 8, 96) := by kernel_rfl
set_option maxRecDepth 100000 in
theorem Clone72.raw (A : Option Addr) (c : Nat) {α : Type} {d : Kd α} (hd : d.sz = 8) (xs : List α) (w : World) (hr : d.C w A xs.length xs) (hc : xs.length ≤ c) (hl : xs.length * 96 ≤ 140737488355328) :
    Calls Try.prog 72 #[.slice A xs.length c] w fun e w' => ∃ v cells, e = .returned v ∧ w'.ownsRow w.heap.size 90 8 v xs.length cells ∧ Reps (d.K w) 8 xs cells ∧ Below w.heap.size w w' := by
  obtain ⟨cells, hR, hlen, hone, hread⟩ := C_cells hr
  rw [hd] at hR hlen
  have HR := Aside0.mk hR
  have HL := Aside0.mk hlen
  have HO := Aside0.mk hone
  have HD := Aside0.mk hread
  have HLL := Aside0.mk hl
  clear hR hlen hone hread hl hr hc hd
  have qT : ∀ (w : World) (a : Option Addr) (n c n' c' : Nat), (binOp .eql 75 (.slice a n c) (.slice none n' c')).run Try.prog w = .ok (.bool a.isNone) w := fun w a n c n' c' => Lib.run_eql_slice_nil w _ _ a n c n' c' Try.underlying75
  rcases A with _ | ad
  · go_enter Try.func72, Try.ntmps72
    go_wp2
    go_ret
    have h0 : xs.length = 0 := by
      rcases Nat.eq_zero_or_pos xs.length with h0 | h0
      · exact h0
      · obtain ⟨ad, h, _⟩ := HD.out h0
        cases h
    obtain rfl : xs = [] := List.eq_nil_of_length_eq_zero h0
    exact ⟨_, [], rfl, own_nil _ _ _ _, Reps.none _ _, Below.refl _ _⟩
  · go_enter Try.func72, Try.ntmps72
    go_wp2_with (first
      | (at_builtin; refine append_raw (w0 := w) w.heap.size rfl _ _ 75 90 (.agg #[(.int .i64 0), (.int .i64 0), (.int .i64 0), (.int .i64 0), (.int .i64 0), (.int .u32 0), (.slice none 0 0), (.slice none 0 0)]) 8 96 rfl Try.underlying75 infoC90 rfl (by decide) (by decide) _ 0 [] cells (some ad) xs.length c rfl rfl ⟨by simp, .inr ⟨_, 0, #[], rfl, Nat.le_refl _, heap_alloc_new _ _, Nat.le_refl _, Nat.zero_le _, by simp, by simp⟩⟩ HL.out (fun hp => by obtain ⟨ad', h', hcc⟩ := HD.out hp; exact ⟨ad', h', fun j u hu => ((below_alloc (Below.refl _ _) _).cell (World.block_lt_of_cell? _ _ (hcc j u hu))).trans (hcc j u hu)⟩) HO.out (below_alloc (Below.refl _ _) _) (below_alloc (Below.refl _ _) _).size (by have := HLL.out; omega) ?_; intro v1 w1 hown hB; have HOW := Aside0.mk hown; have HB := Aside0.mk hB; clear hown hB)
      | fail)
    go_ret
    have h := HOW.out
    rw [List.nil_append, Nat.zero_add] at h
    exact ⟨_, cells, rfl, h, HR.out, HB.out⟩

theorem infoC85 : (Try.prog.info? 85).map (fun i => (i.zero, i.size, i.bytes)) = some (some (.agg #[(.int .u32 0), (.int .i64 0)]), 2, 16) := by kernel_rfl
set_option maxRecDepth 100000 in
theorem Clone73.raw (A : Option Addr) (c : Nat) {α : Type} {d : Kd α} (hd : d.sz = 2) (xs : List α) (w : World) (hr : d.C w A xs.length xs) (hc : xs.length ≤ c) (hl : xs.length * 16 ≤ 140737488355328) :
    Calls Try.prog 73 #[.slice A xs.length c] w fun e w' => ∃ v cells, e = .returned v ∧ w'.ownsRow w.heap.size 85 2 v xs.length cells ∧ Reps (d.K w) 2 xs cells ∧ Below w.heap.size w w' := by
  obtain ⟨cells, hR, hlen, hone, hread⟩ := C_cells hr
  rw [hd] at hR hlen
  have HR := Aside0.mk hR
  have HL := Aside0.mk hlen
  have HO := Aside0.mk hone
  have HD := Aside0.mk hread
  have HLL := Aside0.mk hl
  clear hR hlen hone hread hl hr hc hd
  have qT : ∀ (w : World) (a : Option Addr) (n c n' c' : Nat), (binOp .eql 72 (.slice a n c) (.slice none n' c')).run Try.prog w = .ok (.bool a.isNone) w := fun w a n c n' c' => Lib.run_eql_slice_nil w _ _ a n c n' c' Try.underlying72
  rcases A with _ | ad
  · go_enter Try.func73, Try.ntmps73
    go_wp2
    go_ret
    have h0 : xs.length = 0 := by
      rcases Nat.eq_zero_or_pos xs.length with h0 | h0
      · exact h0
      · obtain ⟨ad, h, _⟩ := HD.out h0
        cases h
    obtain rfl : xs = [] := List.eq_nil_of_length_eq_zero h0
    exact ⟨_, [], rfl, own_nil _ _ _ _, Reps.none _ _, Below.refl _ _⟩
  · go_enter Try.func73, Try.ntmps73
    go_wp2_with (first
      | (at_builtin; refine append_raw (w0 := w) w.heap.size rfl _ _ 72 85 (.agg #[(.int .u32 0), (.int .i64 0)]) 2 16 rfl Try.underlying72 infoC85 rfl (by decide) (by decide) _ 0 [] cells (some ad) xs.length c rfl rfl ⟨by simp, .inr ⟨_, 0, #[], rfl, Nat.le_refl _, heap_alloc_new _ _, Nat.le_refl _, Nat.zero_le _, by simp, by simp⟩⟩ HL.out (fun hp => by obtain ⟨ad', h', hcc⟩ := HD.out hp; exact ⟨ad', h', fun j u hu => ((below_alloc (Below.refl _ _) _).cell (World.block_lt_of_cell? _ _ (hcc j u hu))).trans (hcc j u hu)⟩) HO.out (below_alloc (Below.refl _ _) _) (below_alloc (Below.refl _ _) _).size (by have := HLL.out; omega) ?_; intro v1 w1 hown hB; have HOW := Aside0.mk hown; have HB := Aside0.mk hB; clear hown hB)
      | fail)
    go_ret
    have h := HOW.out
    rw [List.nil_append, Nat.zero_add] at h
    exact ⟨_, cells, rfl, h, HR.out, HB.out⟩

theorem Clone73.calls (A : Option Addr) (c : Nat) (xs : List S85) (w : World) (hr : k85.C w A xs.length xs) (hc : xs.length ≤ c) (hl : xs.length * 16 ≤ 140737488355328) :
    Calls Try.prog 73 #[.slice A xs.length c] w fun e w' => ∃ v, e = .returned v ∧ k85.R 85 w' w.heap.size (fun _ => True) v xs ∧ Below w.heap.size w w' := by
  refine (Clone73.raw A c (d := k85) rfl xs w hr hc hl).mono ?_
  rintro e w' ⟨v, cells, rfl, ho, hR, hB⟩
  exact ⟨v, rfl, ⟨fun _ _ => trivial, cells, ho, hR.imp_ (fun _ _ h => h)⟩, hB⟩
end Go.Proofs.Ytocdebfbpfmnnaa.Pr
