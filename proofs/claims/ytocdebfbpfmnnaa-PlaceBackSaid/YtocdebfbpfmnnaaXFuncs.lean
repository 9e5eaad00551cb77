/- slices.IndexFunc and slices.ContainsFunc at []int, for a function value that only reads. -/
import Derived.Test.YtocdebfbpfmnnaaPr0
import Derived.Shelf.SlGeneric
namespace Go.Proofs.Ytocdebfbpfmnnaa.Pr
open Go.RowKit Go.Proofs.YtocdebfbpfmnnaaW.PrintWords Go.Proofs.YtocdebfbpfmnnaaW.PrintLast Go.Proofs.YtocdebfbpfmnnaaW.PrintMore
set_option linter.unusedVariables false
set_option linter.unusedSimpArgs false

def idxOf (p : Int → Bool) : List Int → Nat → Int
  | [], _ => -1
  | x :: l, k => if p x then (k : Int) else idxOf p l (k + 1)
theorem idxOf_any (p : Int → Bool) : ∀ (l : List Int) (k : Nat), decide (idxOf p l k ≥ 0) = l.any p
  | [], k => by simp [idxOf]
  | x :: l, k => by
    simp only [idxOf, List.any_cons]
    have ih := idxOf_any p l (k + 1)
    by_cases h : p x = true
    · simp [h]
    · have e : p x = false := by simpa using h
      simp only [e, Bool.false_or, if_false, Bool.false_eq_true]
      exact ih

set_option maxHeartbeats 1000000 in
set_option maxRecDepth 100000 in
theorem IndexFunc.calls (g : Nat) (lb : Array Value) (eg : ∀ args w, (callFunc g args).run Try.prog w = .ok (.enter g args) w) (p : Int → Bool) (A : Option Addr) (c : Nat) (xs : List Int) (w : World) (hr : Kd.C (Kd.int .i64) w A xs.length xs) (hc : xs.length ≤ c)
    (hp : ∀ x ∈ xs, Calls Try.prog g (#[.int .i64 x] ++ lb) w fun e w' => e = .returned (.bool (p x)) ∧ w = w') :
    Calls Try.prog 98 #[.slice A xs.length c, .func (.func g) #[] lb] w fun e w' => e = .returned (.int .i64 (idxOf p xs 0)) ∧ w = w' := by
  have HR := Aside0.mk hr
  have HP := Aside0.mk hp
  have HM := Aside0.mk (Kd.C_max hr)
  clear hr hp hc
  go_enter Try.func98, Try.ntmps98
  go_wp2
  go_loopg [5, 8] xs.length (fun gg _ v8 wr => ∃ q : Nat, q ≤ xs.length ∧ xs.length - q ≤ gg ∧ v8 = .int .i64 (q : Int) ∧ w = wr ∧ Aside0 (idxOf p xs 0 = idxOf p (xs.drop q) q))
  case atStart => exact ⟨0, Nat.zero_le _, by omega, rfl, rfl, ⟨rfl⟩⟩
  case round =>
    obtain ⟨q, hq, hg, rfl, rfl, HI⟩ := hrel
    by_cases hlt : q < xs.length
    · have HLT := Aside0.mk hlt
      have hq2 : (q : Int) + 1 ≤ 9223372036854775807 := by have := HM.out; omega
      have hltz : (q : Int) < (xs.length : Int) := by omega
      have hltb : decide ((q : Int) < (xs.length : Int)) = true := decide_eq_true hltz
      have hltn : decide (q < xs.length) = true := decide_eq_true hlt
      obtain ⟨ad, e8, y0⟩ := Kd.at_int HR.out (q : Int) (by omega) (by omega)
      cases e8
      simp only [Int.toNat_natCast] at y0
      have hmem : rd xs (q : Int) ∈ xs := by
        unfold rd
        rw [Int.toNat_natCast, List.getD_eq_getElem?_getD, List.getElem?_eq_getElem hlt]
        exact List.getElem_mem hlt
      have hdrop : xs.drop q = rd xs (q : Int) :: xs.drop (q + 1) := by
        rw [List.drop_eq_getElem_cons hlt]
        congr 1
        unfold rd
        rw [Int.toNat_natCast, List.getD_eq_getElem?_getD, List.getElem?_eq_getElem hlt]; rfl
      have HI2 := Aside0.mk (show idxOf p xs 0 = if p (rd xs (q : Int)) then (q : Int) else idxOf p (xs.drop (q + 1)) (q + 1) by rw [HI.out, hdrop]; rfl)
      have hcall := HP.out _ hmem
      clear hdrop hmem hlt HI
      cases hpx : p (rd xs (q : Int)) with
      | true =>
        rw [hpx] at hcall
        have HQ := Aside0.mk hpx
        have HC := Aside0.mk hcall
        clear hpx hcall
        go_wp2_with (go_at_fn g; refine (HC.out).mono ?_; rintro e w' ⟨rfl, rfl⟩)
        go_ret
        exact ⟨by rw [HI2.out, if_pos HQ.out]; rfl, rfl⟩
      | false =>
        rw [hpx] at hcall
        have HQ := Aside0.mk hpx
        have HC := Aside0.mk hcall
        clear hpx hcall
        go_wp2_with (go_at_fn g; refine (HC.out).mono ?_; rintro e w' ⟨rfl, rfl⟩)
        go_roundg (xs.length - (q + 1))
        case measure => have := HLT.out; omega
        case rel => exact ⟨q + 1, HLT.out, by omega, by go_num, rfl, ⟨by rw [HI2.out, if_neg (by rw [HQ.out]; simp)]⟩⟩
    · obtain rfl : q = xs.length := by omega
      have hltb : decide ((xs.length : Int) < (xs.length : Int)) = false := decide_eq_false (by omega)
      go_wp2
      go_ret
      exact ⟨by rw [HI.out, List.drop_length]; rfl, rfl⟩

set_option maxRecDepth 100000 in
theorem ContainsFunc.calls (g : Nat) (lb : Array Value) (eg : ∀ args w, (callFunc g args).run Try.prog w = .ok (.enter g args) w) (p : Int → Bool) (A : Option Addr) (c : Nat) (xs : List Int) (w : World) (hr : Kd.C (Kd.int .i64) w A xs.length xs) (hc : xs.length ≤ c)
    (hp : ∀ x ∈ xs, Calls Try.prog g (#[.int .i64 x] ++ lb) w fun e w' => e = .returned (.bool (p x)) ∧ w = w') :
    Calls Try.prog 60 #[.slice A xs.length c, .func (.func g) #[] lb] w fun e w' => e = .returned (.bool (xs.any p)) ∧ w = w' := by
  have HI := Aside0.mk (IndexFunc.calls g lb eg p A c xs w hr hc hp)
  have HA := Aside0.mk (idxOf_any p xs 0)
  clear hr hc hp eg
  generalize idxOf p xs 0 = k at HI HA
  go_enter Try.func60, Try.ntmps60
  go_wp2_with (go_at_call 98; refine HI.out.mono ?_; rintro e w' ⟨rfl, rfl⟩)
  go_ret
  exact ⟨by rw [← HA.out]; rfl, rfl⟩
end Go.Proofs.Ytocdebfbpfmnnaa.Pr
